/- Operations by their operands' values; runs that stop where something is not known. -/
import Derived.Test.YtncipgmjhaiagaaDoorDa
import Derived.Test.YtncipgmjhaiagaaDoorDl
import Derived.Test.YtncipgmjhaiagaaDoorQ
set_option linter.unusedSimpArgs false
set_option linter.unusedVariables false
namespace Mv
open Go

/- Operations by values. -/
def vpk (c a b : V) (H : Hp) : Out := match c with | .bool t => ⟨True, vpick t a b, H⟩ | _ => bad H
theorem vpk_b (t : Bool) (a b : V) (H : Hp) : vpk (.bool t) a b H = ⟨True, vpick t a b, H⟩ := rfl
theorem stp_pick (A : List V) (H : Hp) (n : Nat) (c a b : X) : step A H n (.pick c a b) = vpk (c.ev A) (a.ev A) (b.ev A) H := rfl
theorem vpick_T (a b : Bool) : vpick true (.bool a) (.bool b) = .bool a := rfl
theorem vpick_F (a b : Bool) : vpick false (.bool a) (.bool b) = .bool b := rfl
theorem vpick_Tt (a : Bool) (v : V) : vpick true (.bool a) (.tup v) = .bool a := rfl
theorem vpick_Ft (b : Bool) (v : V) : vpick false (.tup v) (.bool b) = .bool b := rfl
theorem vpick_bb (t a b : Bool) : vpick t (.bool a) (.bool b) = .bool (bif t then a else b) := rfl
theorem stp_mv (A : List V) (H : Hp) (n : Nat) (x : X) : step A H n (.mv x) = ⟨True, x.ev A, H⟩ := rfl
theorem stp_ari (A : List V) (H : Hp) (n : Nat) (op : BinOp) (x y : X) : step A H n (.ari op x y) = vari op (x.ev A) (y.ev A) H := rfl
theorem stp_un (A : List V) (H : Hp) (n : Nat) (op : UnOp) (x : X) : step A H n (.un op x) = vun op (x.ev A) H := rfl
theorem stp_eq (A : List V) (H : Hp) (n : Nat) (neg c : Bool) (s : ES) (x y : X) : step A H n (.eq neg c s x y) = ⟨veqP c s (x.ev A) (y.ev A), .bool (neg ^^ veqV s (x.ev A) (y.ev A)), H⟩ := rfl
theorem stp_alloc (A : List V) (H : Hp) (n : Nat) (z : Z) : step A H n (.alloc z) = ⟨True, .ptr n [], (n, z.v 0) :: H⟩ := rfl
theorem stp_box (A : List V) (H : Hp) (n : Nat) (x : X) : step A H n (.box x) = ⟨(x.ev A).solid = true, .ptr n [], (n, x.ev A) :: H⟩ := rfl
theorem stp_build (A : List V) (H : Hp) (n : Nat) (z : Z) (ps : List (Stp × Nat × X)) : step A H n (.build z ps) = ⟨vbuildOK (z.v 0) A ps, vbuild (z.v 0) A ps, H⟩ := rfl
theorem stp_bsl (A : List V) (H : Hp) (n sz m : Nat) (z : Z) (ps : List (Stp × Nat × X)) : step A H n (.bsl sz m z ps) = ⟨vbuildOK (.ar sz m (fun _ => z.v 0)) A ps, .sl n [] 0 m sz, (n, vbuild (.ar sz m (fun _ => z.v 0)) A ps) :: H⟩ := rfl

def vload (agg : Bool) (sz : Nat) (x : V) (H : Hp) : Out := match x with
    | .ptr id p => ⟨(hhas H id = true ∧ (hget H id).solid = true ∧ (hget H id).ok p) ∧ ((hget H id).get p).solid = true ∧ ((hget H id).get p).size = sz ∧ ((hget H id).get p).isAgg = agg, (hget H id).get p, H⟩
    | .imm v => ⟨v.solid = true ∧ v.size = sz ∧ v.isAgg = agg, v, H⟩
    | _ => bad H
theorem vload_p (agg : Bool) (sz id : Nat) (p : List Stp) (H : Hp) : vload agg sz (.ptr id p) H = ⟨(hhas H id = true ∧ (hget H id).solid = true ∧ (hget H id).ok p) ∧ ((hget H id).get p).solid = true ∧ ((hget H id).get p).size = sz ∧ ((hget H id).get p).isAgg = agg, (hget H id).get p, H⟩ := rfl
theorem vload_i (agg : Bool) (sz : Nat) (v : V) (H : Hp) : vload agg sz (.imm v) H = ⟨v.solid = true ∧ v.size = sz ∧ v.isAgg = agg, v, H⟩ := rfl
theorem stp_load (A : List V) (H : Hp) (n : Nat) (agg : Bool) (sz : Nat) (x : X) : step A H n (.load agg sz x) = vload agg sz (x.ev A) H := by
  simp only [step]; generalize X.ev A x = u; cases u <;> rfl

def vstore (sz : Nat) (x y : V) (H : Hp) : Out := match x with
    | .ptr id p => ⟨(hhas H id = true ∧ (hget H id).solid = true ∧ (hget H id).ok p ∧ noR p = true) ∧ y.solid = true ∧ y.size = sz ∧ ((hget H id).get p).size = sz, .tup .fnil, hset H id (V.set y p (hget H id))⟩
    | _ => bad H
theorem vstore_p (sz id : Nat) (p : List Stp) (y : V) (H : Hp) : vstore sz (.ptr id p) y H = ⟨(hhas H id = true ∧ (hget H id).solid = true ∧ (hget H id).ok p ∧ noR p = true) ∧ y.solid = true ∧ y.size = sz ∧ ((hget H id).get p).size = sz, .tup .fnil, hset H id (V.set y p (hget H id))⟩ := rfl
theorem stp_store (A : List V) (H : Hp) (n : Nat) (sz : Nat) (x y : X) : step A H n (.store sz x y) = vstore sz (x.ev A) (y.ev A) H := by
  simp only [step]; generalize X.ev A x = u; generalize X.ev A y = v; cases u <;> cases v <;> rfl

def vnilc (x : V) (H : Hp) : Out := match x with
    | .ptr id p => ⟨True, .ptr id p, H⟩
    | .imm v => ⟨True, .imm v, H⟩
    | .fn f c => ⟨f < 1000000, .fn f c, H⟩
    | .ifc t v => ⟨True, .ifc t v, H⟩
    | _ => bad H
theorem vnilc_p (id : Nat) (p : List Stp) (H : Hp) : vnilc (.ptr id p) H = ⟨True, .ptr id p, H⟩ := rfl
theorem vnilc_i (v : V) (H : Hp) : vnilc (.imm v) H = ⟨True, .imm v, H⟩ := rfl
theorem vnilc_f (f : Nat) (c : V) (H : Hp) : vnilc (.fn f c) H = ⟨f < 1000000, .fn f c, H⟩ := rfl
theorem vnilc_c (t : Nat) (v : V) (H : Hp) : vnilc (.ifc t v) H = ⟨True, .ifc t v, H⟩ := rfl
theorem stp_nilc (A : List V) (H : Hp) (n : Nat) (x : X) : step A H n (.nilc x) = vnilc (x.ev A) H := by
  simp only [step]; generalize X.ev A x = u; cases u <;> rfl

def vfadr (off : Nat) (x : V) (H : Hp) : Out := match x with
    | .ptr id p => ⟨True, .ptr id (padd p (.f off)), H⟩
    | .imm v => ⟨v.solid = true ∧ v.ok [.f off], .imm (v.get [.f off]), H⟩
    | _ => bad H
theorem vfadr_p (off id : Nat) (p : List Stp) (H : Hp) : vfadr off (.ptr id p) H = ⟨True, .ptr id (padd p (.f off)), H⟩ := rfl
theorem vfadr_i (off : Nat) (v : V) (H : Hp) : vfadr off (.imm v) H = ⟨v.solid = true ∧ v.ok [.f off], .imm (v.get [.f off]), H⟩ := rfl
theorem stp_fadr (A : List V) (H : Hp) (n off : Nat) (x : X) : step A H n (.fadr off x) = vfadr off (x.ev A) H := by
  simp only [step]; generalize X.ev A x = u; cases u <;> rfl

def viarr (m sz : Nat) (x i : V) (H : Hp) : Out := match x, i with
    | .ptr id p, .int _ a => ⟨0 ≤ a ∧ a < m, .ptr id (padd p (.i sz a.toNat)), H⟩
    | .imm v, .int _ a => ⟨(0 ≤ a ∧ a < m) ∧ v.solid = true ∧ v.ok [.i sz a.toNat], .imm (v.get [.i sz a.toNat]), H⟩
    | _, _ => bad H
theorem viarr_p (m sz id : Nat) (p : List Stp) (k : IntKind) (a : Int) (H : Hp) : viarr m sz (.ptr id p) (.int k a) H = ⟨0 ≤ a ∧ a < m, .ptr id (padd p (.i sz a.toNat)), H⟩ := rfl
theorem viarr_pW (m sz id : Nat) (p : List Stp) (w : BitVec 64) (H : Hp) : viarr m sz (.ptr id p) (W w) H = ⟨w.toNat < m, .ptr id (padd p (.i sz w.toNat)), H⟩ := by
  simp only [viarr, W, Int.toNat_natCast]; congr 1; rw [eq_iff_iff]; omega
theorem viarr_i (m sz : Nat) (v : V) (k : IntKind) (a : Int) (H : Hp) : viarr m sz (.imm v) (.int k a) H = ⟨(0 ≤ a ∧ a < m) ∧ v.solid = true ∧ v.ok [.i sz a.toNat], .imm (v.get [.i sz a.toNat]), H⟩ := rfl
theorem viarr_iW (m sz : Nat) (v : V) (w : BitVec 64) (H : Hp) : viarr m sz (.imm v) (W w) H = ⟨w.toNat < m ∧ v.solid = true ∧ v.ok [.i sz w.toNat], .imm (v.get [.i sz w.toNat]), H⟩ := by
  simp only [viarr, W, Int.toNat_natCast]; congr 2; rw [eq_iff_iff]; omega
theorem stp_iarr (A : List V) (H : Hp) (n m sz : Nat) (x i : X) : step A H n (.iarr m sz x i) = viarr m sz (x.ev A) (i.ev A) H := by
  simp only [step]; generalize X.ev A x = u; generalize X.ev A i = v; cases u <;> cases v <;> rfl

def visl (sz : Nat) (x i : V) (H : Hp) : Out := match x, i with
    | .sl id p o m sz', .int _ a => ⟨(0 ≤ a ∧ a < m) ∧ sz' = sz, .ptr id (padd p (.i sz (o + a.toNat))), H⟩
    | .lst sz' m f, .int _ a => ⟨(0 ≤ a ∧ a < m) ∧ sz' = sz, .imm (f a.toNat), H⟩
    | _, _ => bad H
theorem visl_s (sz id : Nat) (p : List Stp) (o m sz' : Nat) (k : IntKind) (a : Int) (H : Hp) : visl sz (.sl id p o m sz') (.int k a) H = ⟨(0 ≤ a ∧ a < m) ∧ sz' = sz, .ptr id (padd p (.i sz (o + a.toNat))), H⟩ := rfl
theorem visl_sW (sz id : Nat) (p : List Stp) (o m sz' : Nat) (w : BitVec 64) (H : Hp) : visl sz (.sl id p o m sz') (W w) H = ⟨w.toNat < m ∧ sz' = sz, .ptr id (padd p (.i sz (o + w.toNat))), H⟩ := by
  simp only [visl, W, Int.toNat_natCast]; congr 2; rw [eq_iff_iff]; omega
theorem visl_l (sz sz' m : Nat) (f : Nat → V) (k : IntKind) (a : Int) (H : Hp) : visl sz (.lst sz' m f) (.int k a) H = ⟨(0 ≤ a ∧ a < m) ∧ sz' = sz, .imm (f a.toNat), H⟩ := rfl
theorem visl_lW (sz sz' m : Nat) (f : Nat → V) (w : BitVec 64) (H : Hp) : visl sz (.lst sz' m f) (W w) H = ⟨w.toNat < m ∧ sz' = sz, .imm (f w.toNat), H⟩ := by
  simp only [visl, W, Int.toNat_natCast]; congr 2; rw [eq_iff_iff]; omega
theorem stp_isl (A : List V) (H : Hp) (n sz : Nat) (x i : X) : step A H n (.isl sz x i) = visl sz (x.ev A) (i.ev A) H := by
  simp only [step]; generalize X.ev A x = u; generalize X.ev A i = v; cases u <;> cases v <;> rfl

def vidx (m sz : Nat) (agg : Bool) (x i : V) (H : Hp) : Out := match x, i with
    | .ar sz' m' f, .int _ a => ⟨(0 ≤ a ∧ a < m) ∧ sz' = sz ∧ m' = m ∧ (f a.toNat).isAgg = agg, f a.toNat, H⟩
    | _, _ => bad H
theorem vidx_a (m sz : Nat) (agg : Bool) (sz' m' : Nat) (f : Nat → V) (k : IntKind) (a : Int) (H : Hp) : vidx m sz agg (.ar sz' m' f) (.int k a) H = ⟨(0 ≤ a ∧ a < m) ∧ sz' = sz ∧ m' = m ∧ (f a.toNat).isAgg = agg, f a.toNat, H⟩ := rfl
theorem vidx_aW (m sz : Nat) (agg : Bool) (sz' m' : Nat) (f : Nat → V) (w : BitVec 64) (H : Hp) : vidx m sz agg (.ar sz' m' f) (W w) H = ⟨w.toNat < m ∧ sz' = sz ∧ m' = m ∧ (f w.toNat).isAgg = agg, f w.toNat, H⟩ := by
  simp only [vidx, W, Int.toNat_natCast]; congr 2; rw [eq_iff_iff]; omega
theorem stp_idx (A : List V) (H : Hp) (n m sz : Nat) (agg : Bool) (x i : X) : step A H n (.idx m sz agg x i) = vidx m sz agg (x.ev A) (i.ev A) H := by
  simp only [step]; generalize X.ev A x = u; generalize X.ev A i = v; cases u <;> cases v <;> rfl

def vfld (off sz : Nat) (agg : Bool) (x : V) (H : Hp) : Out := match x with
    | .st _ fs => ⟨fs.fhas off = true ∧ (fs.fget off).solid = true ∧ (fs.fget off).size = sz ∧ (fs.fget off).isAgg = agg, fs.fget off, H⟩
    | _ => bad H
theorem vfld_s (off sz : Nat) (agg : Bool) (m : Nat) (fs : V) (H : Hp) : vfld off sz agg (.st m fs) H = ⟨fs.fhas off = true ∧ (fs.fget off).solid = true ∧ (fs.fget off).size = sz ∧ (fs.fget off).isAgg = agg, fs.fget off, H⟩ := rfl
theorem stp_fld (A : List V) (H : Hp) (n off sz : Nat) (agg : Bool) (x : X) : step A H n (.fld off sz agg x) = vfld off sz agg (x.ev A) H := by
  simp only [step]; generalize X.ev A x = u; cases u <;> rfl

/-- A bound of a slice. -/
def bnd (d : Int) : Option V → Int
  | none => d
  | some (.int _ n) => n
  | _ => -1
def bndI : Option V → Prop
  | none => True
  | some (.int _ _) => True
  | _ => False
theorem bnd_n (d : Int) : bnd d none = d := rfl
theorem bnd_i (d : Int) (k : IntKind) (n : Int) : bnd d (some (.int k n)) = n := rfl
theorem bnd_W (d : Int) (w : BitVec 64) : bnd d (some (W w)) = (w.toNat : Int) := rfl
theorem bndI_n : bndI none = True := rfl
theorem bndI_i (k : IntKind) (n : Int) : bndI (some (.int k n)) = True := rfl
theorem bndI_W (w : BitVec 64) : bndI (some (W w)) = True := rfl
theorem vopt_bnd (A : List V) (d : Int) (x : Option X) : vopt A d x = bnd d (x.map (X.ev A)) := by
  cases x with
  | none => rfl
  | some x => simp only [vopt, Option.map, bnd]; split <;> simp_all
theorem optInt_bnd (A : List V) (x : Option X) : optInt A x = bndI (x.map (X.ev A)) := by
  cases x with
  | none => rfl
  | some x => simp only [optInt, isInt, Option.map, bndI]; split <;> simp_all

def vslarr (m sz : Nat) (x : V) (lo hi : Option V) (H : Hp) : Out := match x with
    | .ptr id p => ⟨(bndI lo ∧ bndI hi ∧ 0 ≤ bnd 0 lo ∧ bnd 0 lo ≤ bnd m hi ∧ bnd m hi ≤ m) ∧ hhas H id = true ∧ (hget H id).solid = true ∧ (hget H id).ok p ∧ (match (hget H id).get p with | .ar sz' m' _ => sz' = sz ∧ m' = m | _ => False),
        .sl id p (bnd 0 lo).toNat ((bnd m hi).toNat - (bnd 0 lo).toNat) sz, H⟩
    | .imm v => match v with
      | .ar sz' m' f => ⟨(bndI lo ∧ bndI hi ∧ 0 ≤ bnd 0 lo ∧ bnd 0 lo ≤ bnd m hi ∧ bnd m hi ≤ m) ∧ sz' = sz ∧ m' = m, .lst sz ((bnd m hi).toNat - (bnd 0 lo).toNat) (fun i => f ((bnd 0 lo).toNat + i)), H⟩
      | _ => bad H
    | _ => bad H
/-- Is it a row of these? -/
def isAr (sz m : Nat) : V → Prop
  | .ar sz' m' _ => sz' = sz ∧ m' = m
  | _ => False
theorem isAr_a (sz m sz' m' : Nat) (f : Nat → V) : isAr sz m (.ar sz' m' f) = (sz' = sz ∧ m' = m) := rfl
theorem vslarr_p (m sz id : Nat) (p : List Stp) (lo hi : Option V) (H : Hp) : vslarr m sz (.ptr id p) lo hi H = ⟨(bndI lo ∧ bndI hi ∧ 0 ≤ bnd 0 lo ∧ bnd 0 lo ≤ bnd m hi ∧ bnd m hi ≤ m) ∧ hhas H id = true ∧ (hget H id).solid = true ∧ (hget H id).ok p ∧ isAr sz m ((hget H id).get p),
        .sl id p (bnd 0 lo).toNat ((bnd m hi).toNat - (bnd 0 lo).toNat) sz, H⟩ := by
  simp only [vslarr]; congr 5
theorem vslarr_i (m sz sz' m' : Nat) (f : Nat → V) (lo hi : Option V) (H : Hp) : vslarr m sz (.imm (.ar sz' m' f)) lo hi H = ⟨(bndI lo ∧ bndI hi ∧ 0 ≤ bnd 0 lo ∧ bnd 0 lo ≤ bnd m hi ∧ bnd m hi ≤ m) ∧ sz' = sz ∧ m' = m, .lst sz ((bnd m hi).toNat - (bnd 0 lo).toNat) (fun i => f ((bnd 0 lo).toNat + i)), H⟩ := rfl
theorem stp_slarr (A : List V) (H : Hp) (n m sz : Nat) (x : X) (lo hi : Option X) : step A H n (.slarr m sz x lo hi) = vslarr m sz (x.ev A) (lo.map (X.ev A)) (hi.map (X.ev A)) H := by
  simp only [step, vopt_bnd, optInt_bnd]; generalize X.ev A x = u
  cases u <;> first | rfl | (rename_i v; cases v <;> rfl)

def vslsl (sz : Nat) (x : V) (lo hi : Option V) (H : Hp) : Out := match x with
    | .sl id p o m sz' => ⟨(bndI lo ∧ bndI hi ∧ 0 ≤ bnd 0 lo ∧ bnd 0 lo ≤ bnd m hi ∧ bnd m hi ≤ m) ∧ sz' = sz, .sl id p (o + (bnd 0 lo).toNat) ((bnd m hi).toNat - (bnd 0 lo).toNat) sz, H⟩
    | .lst sz' m f => ⟨(bndI lo ∧ bndI hi ∧ 0 ≤ bnd 0 lo ∧ bnd 0 lo ≤ bnd m hi ∧ bnd m hi ≤ m) ∧ sz' = sz, .lst sz ((bnd m hi).toNat - (bnd 0 lo).toNat) (fun i => f ((bnd 0 lo).toNat + i)), H⟩
    | .nils => ⟨bndI lo ∧ bndI hi ∧ bnd 0 lo = 0 ∧ bnd 0 hi = 0, .nils, H⟩
    | _ => bad H
theorem vslsl_s (sz id : Nat) (p : List Stp) (o m sz' : Nat) (lo hi : Option V) (H : Hp) : vslsl sz (.sl id p o m sz') lo hi H = ⟨(bndI lo ∧ bndI hi ∧ 0 ≤ bnd 0 lo ∧ bnd 0 lo ≤ bnd m hi ∧ bnd m hi ≤ m) ∧ sz' = sz, .sl id p (o + (bnd 0 lo).toNat) ((bnd m hi).toNat - (bnd 0 lo).toNat) sz, H⟩ := rfl
theorem vslsl_l (sz sz' m : Nat) (f : Nat → V) (lo hi : Option V) (H : Hp) : vslsl sz (.lst sz' m f) lo hi H = ⟨(bndI lo ∧ bndI hi ∧ 0 ≤ bnd 0 lo ∧ bnd 0 lo ≤ bnd m hi ∧ bnd m hi ≤ m) ∧ sz' = sz, .lst sz ((bnd m hi).toNat - (bnd 0 lo).toNat) (fun i => f ((bnd 0 lo).toNat + i)), H⟩ := rfl
theorem vslsl_n (sz : Nat) (lo hi : Option V) (H : Hp) : vslsl sz .nils lo hi H = ⟨bndI lo ∧ bndI hi ∧ bnd 0 lo = 0 ∧ bnd 0 hi = 0, .nils, H⟩ := rfl
theorem stp_slsl (A : List V) (H : Hp) (n sz : Nat) (x : X) (lo hi : Option X) : step A H n (.slsl sz x lo hi) = vslsl sz (x.ev A) (lo.map (X.ev A)) (hi.map (X.ev A)) H := by
  simp only [step, vopt_bnd, optInt_bnd]; generalize X.ev A x = u; cases u <;> rfl

def vs2a (m sz : Nat) (x : V) (H : Hp) : Out := match x with
    | .sl id p o l sz' => ⟨(sz' = sz ∧ m ≤ l ∧ 0 < m), .ptr id (padd p (.r sz o m)), H⟩
    | .lst sz' l f => ⟨sz' = sz ∧ m ≤ l ∧ 0 < m, .imm (.ar sz m f), H⟩
    | _ => bad H
theorem vs2a_s (m sz id : Nat) (p : List Stp) (o l sz' : Nat) (H : Hp) : vs2a m sz (.sl id p o l sz') H = ⟨(sz' = sz ∧ m ≤ l ∧ 0 < m), .ptr id (padd p (.r sz o m)), H⟩ := rfl
theorem vs2a_l (m sz sz' l : Nat) (f : Nat → V) (H : Hp) : vs2a m sz (.lst sz' l f) H = ⟨sz' = sz ∧ m ≤ l ∧ 0 < m, .imm (.ar sz m f), H⟩ := rfl
theorem stp_s2a (A : List V) (H : Hp) (n m sz : Nat) (x : X) : step A H n (.s2a m sz x) = vs2a m sz (x.ev A) H := by
  simp only [step]; generalize X.ev A x = u; cases u <;> rfl
theorem stp_mkif (A : List V) (H : Hp) (n t : Nat) (x : X) : step A H n (.mkif t x) = ⟨(x.ev A).solid = true, .ifc t (x.ev A), H⟩ := rfl
def vext (x : V) (i : Nat) (H : Hp) : Out := match x with
    | .tup fs => ⟨fs.fhas i = true, fs.fget i, H⟩
    | _ => bad H
theorem vext_t (fs : V) (i : Nat) (H : Hp) : vext (.tup fs) i H = ⟨fs.fhas i = true, fs.fget i, H⟩ := rfl
theorem stp_ext (A : List V) (H : Hp) (n : Nat) (x : X) (i : Nat) : step A H n (.ext x i) = vext (x.ev A) i H := by
  simp only [step]; generalize X.ev A x = u; cases u <;> rfl

def vlen (k : Nat) (x : V) (H : Hp) : Out := match k, x with
    | 0, .sl _ _ _ m _ => ⟨True, .int .i64 m, H⟩
    | 0, .lst _ m _ => ⟨True, .int .i64 m, H⟩
    | 0, .nils => ⟨True, .int .i64 0, H⟩
    | 1, .str s => ⟨True, .int .i64 s.size, H⟩
    | 2, .nilm => ⟨True, .int .i64 0, H⟩
    | 2, .map id => match hget H id with
      | .mp m _ _ => ⟨hhas H id = true, .int .i64 m, H⟩
      | _ => bad H
    | _, _ => bad H
theorem vlen_s (id : Nat) (p : List Stp) (o m sz : Nat) (H : Hp) : vlen 0 (.sl id p o m sz) H = ⟨True, .int .i64 m, H⟩ := rfl
theorem vlen_l (sz m : Nat) (f : Nat → V) (H : Hp) : vlen 0 (.lst sz m f) H = ⟨True, .int .i64 m, H⟩ := rfl
theorem vlen_n (H : Hp) : vlen 0 .nils H = ⟨True, .int .i64 0, H⟩ := rfl
theorem vlen_str (s : ByteArray) (H : Hp) : vlen 1 (.str s) H = ⟨True, .int .i64 s.size, H⟩ := rfl
theorem vlen_nm (H : Hp) : vlen 2 .nilm H = ⟨True, .int .i64 0, H⟩ := rfl
theorem stp_len (A : List V) (H : Hp) (n k : Nat) (x : X) : step A H n (.len k x) = vlen k (x.ev A) H := by
  simp only [step]; generalize X.ev A x = u; rcases k with _ | _ | _ | k <;> cases u <;> rfl
theorem stp_mkfn (A : List V) (H : Hp) (n f : Nat) (caps : List X) : step A H n (.mkfn f caps) = ⟨vcapsOK A caps, .fn f (.st caps.length (vcaps A caps 0)), H⟩ := rfl

theorem stp_mkmth (A : List V) (H : Hp) (n k : Nat) (x : X) : step A H n (.mkmth k x) = (match x.ev A with | .ifc t v => ⟨True, .fn (1000000 + k) (.st 1 (.fcons 0 (.ifc t v) .fnil)), H⟩ | _ => bad H) := rfl
theorem stp_nilm (A : List V) (H : Hp) (n k : Nat) (ts : List Nat) (x : X) : step A H n (.nilm k ts x) = (match x.ev A with | .fn f (.st m (.fcons j (.ifc t v) r)) => ⟨f = 1000000 + k ∧ t ∈ ts ∧ m = 1 ∧ j = 0, .fn f (.st m (.fcons j (.ifc t v) r)), H⟩ | _ => bad H) := rfl
def vmcl (v : V) (n : Nat) (H : Hp) : Out := match v with
    | .ifc t (.map id) => match hget H id with
      | .mp m ks vs => ⟨hhas H id = true, .ifc t (.map n), (n, .mp m ks vs) :: H⟩
      | _ => bad H
    | _ => bad H
def vmcl' (b : V) (t id n : Nat) (H : Hp) : Out := match b with
    | .mp m ks vs => ⟨hhas H id = true, .ifc t (.map n), (n, .mp m ks vs) :: H⟩
    | _ => bad H
theorem vmcl_i (t id n : Nat) (H : Hp) : vmcl (.ifc t (.map id)) n H = vmcl' (hget H id) t id n H := rfl
theorem vmcl'_m (t id n m : Nat) (ks vs : Nat → V) (H : Hp) : vmcl' (.mp m ks vs) t id n H = ⟨hhas H id = true, .ifc t (.map n), (n, .mp m ks vs) :: H⟩ := rfl
theorem stp_mclone (A : List V) (H : Hp) (n : Nat) (x : X) : step A H n (.mclone x) = vmcl (x.ev A) n H := rfl
theorem stp_tas (A : List V) (H : Hp) (n t : Nat) (x : X) : step A H n (.tas t x) = (match x.ev A with | .ifc t' v => ⟨t' = t, v, H⟩ | _ => bad H) := rfl
def vsidx (x i : V) (H : Hp) : Out := match x, i with
    | .str s, .int _ a => ⟨0 ≤ a ∧ a < s.size, .int .u8 ((s[a.toNat]?).getD 0).toNat, H⟩
    | _, _ => bad H
theorem vsidx_s (s : ByteArray) (k : IntKind) (a : Int) (H : Hp) : vsidx (.str s) (.int k a) H = ⟨0 ≤ a ∧ a < s.size, .int .u8 ((s[a.toNat]?).getD 0).toNat, H⟩ := rfl
theorem stp_sidx (A : List V) (H : Hp) (n : Nat) (x y : X) : step A H n (.sidx x y) = vsidx (x.ev A) (y.ev A) H := by
  simp only [step]; generalize X.ev A x = u; generalize X.ev A y = v; cases u <;> cases v <;> rfl
def vadd64 (x y z : V) (H : Hp) : Out := match x, y, z with
    | .int .u64 a, .int .u64 b, .int .u64 c => ⟨0 ≤ a ∧ 0 ≤ b ∧ 0 ≤ c ∧ c ≤ 1, .tup (.fcons 0 (.int .u64 ((a + b + c) % 18446744073709551616)) (.fcons 1 (.int .u64 ((a + b + c) / 18446744073709551616)) .fnil)), H⟩
    | _, _, _ => bad H
/-- What is carried. -/
def crW (a b : BitVec 64) : BitVec 64 := if a.toNat + b.toNat < 18446744073709551616 then 0#64 else 1#64
theorem vadd64_W (a b : BitVec 64) (H : Hp) : vadd64 (W a) (W b) (.int .u64 0) H = ⟨True, .tup (.fcons 0 (W (a + b)) (.fcons 1 (W (crW a b)) .fnil)), H⟩ := by
  have ha := a.isLt
  have hb := b.isLt
  have e1 : ((a.toNat : Int) + b.toNat + 0) % 18446744073709551616 = ((a + b).toNat : Int) := by
    rw [BitVec.toNat_add]; omega
  have e2 : ((a.toNat : Int) + b.toNat + 0) / 18446744073709551616 = ((crW a b).toNat : Int) := by
    unfold crW; split
    · show _ = ((0 : Nat) : Int); omega
    · show _ = ((1 : Nat) : Int); omega
  show (⟨_, _, _⟩ : Out) = _
  simp only [W, e1, e2]
  congr 1
  exact eq_true ⟨by omega, by omega, by omega, by omega⟩
theorem stp_add64 (A : List V) (H : Hp) (n : Nat) (x y z : X) : step A H n (.add64 x y z) = vadd64 (x.ev A) (y.ev A) (z.ev A) H := by
  simp only [step]; generalize X.ev A x = u; generalize X.ev A y = v; generalize X.ev A z = w; cases u <;> cases v <;> cases w <;> rfl
def vmm (max : Bool) (x y : V) (H : Hp) : Out := match x, y with
    | .int k a, .int k' b => ⟨k = k', .int k (if max then (if a < b then b else a) else (if b < a then b else a)), H⟩
    | _, _ => bad H
theorem vmm_max (k : IntKind) (a b : Int) (H : Hp) : vmm true (.int k a) (.int k b) H = ⟨True, .int k (max a b), H⟩ := by
  have : max a b = if a < b then b else a := by omega
  simp [vmm, this]
theorem vmm_min (k : IntKind) (a b : Int) (H : Hp) : vmm false (.int k a) (.int k b) H = ⟨True, .int k (min a b), H⟩ := by
  have : min a b = if b < a then b else a := by omega
  simp [vmm, this]
theorem stp_mm (A : List V) (H : Hp) (n : Nat) (max : Bool) (x y : X) : step A H n (.mm max x y) = vmm max (x.ev A) (y.ev A) H := by
  simp only [step]; generalize X.ev A x = u; generalize X.ev A y = v; cases u <;> cases v <;> rfl

def vmksl (sz bytes : Nat) (z : Z) (n : Nat) (x y : V) (H : Hp) : Out := match x, y with
    | .int k a, .int k' b => ⟨k = .i64 ∧ k' = .i64 ∧ 0 ≤ a ∧ a ≤ b ∧ b * bytes ≤ 2 ^ 47 ∧ b < 2 ^ 47, .sl n [] 0 a.toNat sz, (n, .ar sz b.toNat (fun _ => z.v 0)) :: H⟩
    | _, _ => bad H
theorem vmksl_i (sz bytes : Nat) (z : Z) (n : Nat) (a b : Int) (H : Hp) : vmksl sz bytes z n (.int .i64 a) (.int .i64 b) H = ⟨0 ≤ a ∧ a ≤ b ∧ b * bytes ≤ 140737488355328 ∧ b < 140737488355328, .sl n [] 0 a.toNat sz, (n, .ar sz b.toNat (fun _ => z.v 0)) :: H⟩ := by
  simp [vmksl]
theorem stp_mksl (A : List V) (H : Hp) (n sz bytes : Nat) (z : Z) (l c : X) : step A H n (.mksl sz bytes z l c) = vmksl sz bytes z n (l.ev A) (c.ev A) H := by
  simp only [step]; generalize X.ev A l = u; generalize X.ev A c = v; cases u <;> cases v <;> rfl

/-- append, copy, by values: the source opened, the target's block handed in. -/
def vapp (sz bytes n : Nat) (x y : V) (H : Hp) : Out := match x, elems H y with
    | .nils, some (sz', m, g) => ⟨sz' = sz ∧ elemsOK H y ∧ 0 < m ∧ m * bytes ≤ 2 ^ 47, .sl n [] 0 m sz, (n, .ar sz m g) :: H⟩
    | .sl id p o l sz'', some (sz', m, g) =>
      match hget H id with
      | .ar _ l' f => ⟨(sz' = sz ∧ sz'' = sz ∧ p = [] ∧ o = 0) ∧ (hhas H id = true ∧ (hget H id).solid = true ∧ (match hget H id with | .ar s _ _ => s = sz | _ => False) ∧ l ≤ l') ∧ elemsOK H y ∧ (l + m) * bytes ≤ 2 ^ 46,
          .sl n [] 0 (l + m) sz, (n, .ar sz (l + m) (fun i => if i < l then f i else g (i - l))) :: hdel H id⟩
      | _ => bad H
    | _, _ => bad H
theorem stp_app (A : List V) (H : Hp) (n sz bytes : Nat) (x y : X) : step A H n (.app sz bytes x y) = vapp sz bytes n (x.ev A) (y.ev A) H := rfl
def vapp' (sz bytes n : Nat) (x : V) (e : Option (Nat × Nat × (Nat → V))) (ok : Prop) (b : V) (H : Hp) : Out := match x, e with
    | .nils, some (sz', m, g) => ⟨sz' = sz ∧ ok ∧ 0 < m ∧ m * bytes ≤ 2 ^ 47, .sl n [] 0 m sz, (n, .ar sz m g) :: H⟩
    | .sl id p o l sz'', some (sz', m, g) =>
      match b with
      | .ar s l' f => ⟨(sz' = sz ∧ sz'' = sz ∧ p = [] ∧ o = 0) ∧ (hhas H id = true ∧ s = sz ∧ l ≤ l') ∧ ok ∧ (l + m) * bytes ≤ 2 ^ 46,
          .sl n [] 0 (l + m) sz, (n, .ar sz (l + m) (fun i => if i < l then f i else g (i - l))) :: hdel H id⟩
      | _ => bad H
    | _, _ => bad H
theorem vapp_n (sz bytes n : Nat) (y : V) (H : Hp) : vapp sz bytes n .nils y H = vapp' sz bytes n .nils (elems H y) (elemsOK H y) .junk H := by
  simp only [vapp, vapp']; cases elems H y <;> rfl
theorem vapp_s (sz bytes n id : Nat) (p : List Stp) (o l sz'' : Nat) (y : V) (H : Hp) : vapp sz bytes n (.sl id p o l sz'') y H = vapp' sz bytes n (.sl id p o l sz'') (elems H y) (elemsOK H y) (hget H id) H := by
  simp only [vapp, vapp']
  cases elems H y with
  | none => rfl
  | some q =>
    obtain ⟨a, b, c⟩ := q
    cases hu : hget H id <;> simp [hu, V.solid, bad]
theorem vapp'_n (sz bytes n sz' m : Nat) (g : Nat → V) (ok : Prop) (b : V) (H : Hp) : vapp' sz bytes n .nils (some (sz', m, g)) ok b H = ⟨sz' = sz ∧ ok ∧ 0 < m ∧ m * bytes ≤ 140737488355328, .sl n [] 0 m sz, (n, .ar sz m g) :: H⟩ := by simp [vapp']
theorem vapp'_s (sz bytes n id : Nat) (p : List Stp) (o l sz'' sz' m s l' : Nat) (g f : Nat → V) (ok : Prop) (H : Hp) : vapp' sz bytes n (.sl id p o l sz'') (some (sz', m, g)) ok (.ar s l' f) H =
  ⟨(sz' = sz ∧ sz'' = sz ∧ p = [] ∧ o = 0) ∧ (hhas H id = true ∧ s = sz ∧ l ≤ l') ∧ ok ∧ (l + m) * bytes ≤ 70368744177664,
          .sl n [] 0 (l + m) sz, (n, .ar sz (l + m) (fun i => if i < l then f i else g (i - l))) :: hdel H id⟩ := by simp [vapp']
theorem elems_l (H : Hp) (sz n : Nat) (f : Nat → V) : elems H (.lst sz n f) = some (sz, n, f) := rfl
def elemsB (o n sz : Nat) (b : V) : Option (Nat × Nat × (Nat → V)) := match b with
  | .ar _ _ f => some (sz, n, fun i => f (o + i))
  | _ => none
theorem elemsB_a (o n sz s m : Nat) (f : Nat → V) : elemsB o n sz (.ar s m f) = some (sz, n, fun i => f (o + i)) := rfl
theorem elems_s (H : Hp) (id : Nat) (p : List Stp) (o n sz : Nat) : elems H (.sl id p o n sz) = elemsB o n sz ((hget H id).get p) := rfl
def elemsC (o n sz : Nat) (b : V) : Prop := match b with
  | .ar sz' m _ => sz' = sz ∧ o + n ≤ m
  | _ => False
theorem elemsC_a (o n sz s m : Nat) (f : Nat → V) : elemsC o n sz (.ar s m f) = (s = sz ∧ o + n ≤ m) := rfl
theorem elemsOK_l (H : Hp) (sz n : Nat) (f : Nat → V) : elemsOK H (.lst sz n f) = True := rfl
theorem elemsOK_s (H : Hp) (id : Nat) (p : List Stp) (o n sz : Nat) : elemsOK H (.sl id p o n sz) = (hhas H id = true ∧ (hget H id).solid = true ∧ (hget H id).ok p ∧ elemsC o n sz ((hget H id).get p)) := by
  simp only [elemsOK]; rfl
theorem elems_n (H : Hp) : elems H .nils = none := rfl

def vcpy (sz : Nat) (x y : V) (H : Hp) : Out := match x, elems H y with
    | .sl id p o l sz'', some (sz', m, g) =>
      match (hget H id).get p with
      | .ar s l' f => ⟨(sz' = sz ∧ sz'' = sz ∧ s = sz) ∧ (hhas H id = true ∧ (hget H id).solid = true ∧ (hget H id).ok p ∧ noR p = true ∧ o + l ≤ l') ∧ elemsOK H y, .int .i64 (min m l : Nat),
          hset H id (V.set (.ar sz l' (fun i => if o ≤ i ∧ i < o + min m l then g (i - o) else f i)) p (hget H id))⟩
      | _ => bad H
    | .sl _ _ _ _ _, none => ⟨match y with | .nils => True | _ => False, .int .i64 0, H⟩
    | _, _ => bad H
theorem stp_copy (A : List V) (H : Hp) (n sz : Nat) (x y : X) : step A H n (.copy sz x y) = vcpy sz (x.ev A) (y.ev A) H := rfl
def vcpy' (sz id : Nat) (p : List Stp) (o l : Nat) (e : Option (Nat × Nat × (Nat → V))) (ok : Prop) (b : V) (H : Hp) : Out := match e, b with
    | some (sz', m, g), .ar s l' f => ⟨(sz' = sz ∧ s = sz) ∧ (hhas H id = true ∧ (hget H id).solid = true ∧ (hget H id).ok p ∧ noR p = true ∧ o + l ≤ l') ∧ ok, .int .i64 (min m l : Nat),
          hset H id (V.set (.ar sz l' (fun i => if o ≤ i ∧ i < o + min m l then g (i - o) else f i)) p (hget H id))⟩
    | none, _ => ⟨False, .int .i64 0, H⟩
    | _, _ => bad H
theorem vcpy_sn (sz id : Nat) (p : List Stp) (o l sz'' : Nat) (H : Hp) : vcpy sz (.sl id p o l sz'') .nils H = ⟨True, .int .i64 0, H⟩ := rfl
theorem vcpy_sl (sz id : Nat) (p : List Stp) (o l n sz' : Nat) (f : Nat → V) (H : Hp) : vcpy sz (.sl id p o l sz) (.lst sz' n f) H = vcpy' sz id p o l (some (sz', n, f)) True ((hget H id).get p) H := by
  simp only [vcpy, vcpy', elems, elemsOK]; cases hu : (hget H id).get p <;> simp [hu, bad]
theorem vcpy_ss (sz id : Nat) (p : List Stp) (o l id' : Nat) (p' : List Stp) (o' n sz' : Nat) (H : Hp) : vcpy sz (.sl id p o l sz) (.sl id' p' o' n sz') H = vcpy' sz id p o l (elemsB o' n sz' ((hget H id').get p')) (hhas H id' = true ∧ (hget H id').solid = true ∧ (hget H id').ok p' ∧ elemsC o' n sz' ((hget H id').get p')) ((hget H id).get p) H := by
  simp only [vcpy, vcpy', elems_s, elemsOK_s]
  cases elemsB o' n sz' ((hget H id').get p') with
  | none => rfl
  | some q =>
    obtain ⟨a, b, c⟩ := q
    cases hu : (hget H id).get p <;> simp [hu, bad]
theorem vcpy'_a (sz id : Nat) (p : List Stp) (o l sz' m : Nat) (g : Nat → V) (ok : Prop) (s l' : Nat) (f : Nat → V) (H : Hp) : vcpy' sz id p o l (some (sz', m, g)) ok (.ar s l' f) H =
  ⟨(sz' = sz ∧ s = sz) ∧ (hhas H id = true ∧ (hget H id).solid = true ∧ (hget H id).ok p ∧ noR p = true ∧ o + l ≤ l') ∧ ok, .int .i64 (min m l : Nat),
          hset H id (V.set (.ar sz l' (fun i => if o ≤ i ∧ i < o + min m l then g (i - o) else f i)) p (hget H id))⟩ := rfl
end Mv
namespace Mv
open Go

theorem W_lit' (n : Nat) (h : n < 18446744073709551616) : V.int .u64 (no_index (OfNat.ofNat n : Int)) = W (BitVec.ofNat 64 n) := W_lit n h
theorem B_lit' (n : Nat) (h : n < 256) : V.int .u8 (no_index (OfNat.ofNat n : Int)) = B (BitVec.ofNat 8 n) := B_lit n h

theorem vW_add (a b : BitVec 64) (H : Hp) : vari .add (W a) (W b) H = ⟨True, W (a + b), H⟩ := by
  simp only [vari, W, wrap_u, BitVec.toNat_add]; congr 2
theorem vW_sub (a b : BitVec 64) (H : Hp) : vari .sub (W a) (W b) H = ⟨True, W (a - b), H⟩ := by
  have h1 := a.isLt; have h2 := b.isLt
  simp only [vari, W, wrap_u, BitVec.toNat_sub]; congr 2; omega
theorem vW_mul (a b : BitVec 64) (H : Hp) : vari .mul (W a) (W b) H = ⟨True, W (a * b), H⟩ := by
  simp only [vari, W, wrap_u, BitVec.toNat_mul]; congr 2
theorem vW_quo (a b : BitVec 64) (H : Hp) : vari .quo (W a) (W b) H = ⟨b ≠ 0, W (a / b), H⟩ := by
  have h1 := a.isLt
  have h2 : a.toNat / b.toNat ≤ a.toNat := Nat.div_le_self _ _
  have e : ((b.toNat : Int) ≠ 0) = (b ≠ 0) := by
    refine propext (not_congr ⟨fun h => BitVec.eq_of_toNat_eq (by simpa using h), ?_⟩)
    rintro rfl; rfl
  simp only [vari, W, wrap_u, BitVec.toNat_udiv, true_and]
  rw [e]; congr 2
  rw [Int.tdiv_eq_ediv_of_nonneg (by omega), ← Int.natCast_ediv]
  generalize a.toNat / b.toNat = q at *; omega
theorem vW_rem (a b : BitVec 64) (H : Hp) : vari .rem (W a) (W b) H = ⟨b ≠ 0, W (a % b), H⟩ := by
  have e : ((b.toNat : Int) ≠ 0) = (b ≠ 0) := by
    refine propext (not_congr ⟨fun h => BitVec.eq_of_toNat_eq (by simpa using h), ?_⟩)
    rintro rfl; rfl
  simp only [vari, W, BitVec.toNat_umod, true_and]
  rw [e]; congr 2
theorem vW_lss (a b : BitVec 64) (H : Hp) : vari .lss (W a) (W b) H = ⟨True, .bool (decide (a < b)), H⟩ := by
  simp only [vari, W, BitVec.lt_def, Int.ofNat_lt]
theorem vW_leq (a b : BitVec 64) (H : Hp) : vari .leq (W a) (W b) H = ⟨True, .bool (decide (a ≤ b)), H⟩ := by
  simp only [vari, W, BitVec.le_def, Int.ofNat_le]
theorem vW_gtr (a b : BitVec 64) (H : Hp) : vari .gtr (W a) (W b) H = ⟨True, .bool (decide (b < a)), H⟩ := by
  simp only [vari, W, BitVec.lt_def, Int.ofNat_lt]
theorem vW_geq (a b : BitVec 64) (H : Hp) : vari .geq (W a) (W b) H = ⟨True, .bool (decide (b ≤ a)), H⟩ := by
  simp only [vari, W, BitVec.le_def, Int.ofNat_le]
theorem vW_neg (a : BitVec 64) (H : Hp) : vun .neg (W a) H = ⟨True, W (-a), H⟩ := by
  have h1 := a.isLt
  simp only [vun, W, wrap_u, BitVec.toNat_neg]; congr 2; omega
theorem vW_shlW (a b : BitVec 64) (H : Hp) : vari .shl (W a) (W b) H = ⟨True, W (a <<< b.toNat), H⟩ := by
  have := vari_shl a .u64 (b.toNat : Int) H
  simp only [Int.toNat_natCast] at this
  rw [show W b = V.int .u64 (b.toNat : Int) from rfl, this]; congr 1; simp
theorem vW_shrW (a b : BitVec 64) (H : Hp) : vari .shr (W a) (W b) H = ⟨True, W (a >>> b.toNat), H⟩ := by
  have := vari_shr a .u64 (b.toNat : Int) H
  simp only [Int.toNat_natCast] at this
  rw [show W b = V.int .u64 (b.toNat : Int) from rfl, this]; congr 1; simp
theorem vB_eql (a b : BitVec 8) (H : Hp) : vari .eql (B a) (B b) H = ⟨True, .bool (decide (a = b)), H⟩ := by
  simp only [vari, B, eqB]
theorem vB_neq (a b : BitVec 8) (H : Hp) : vari .neq (B a) (B b) H = ⟨True, .bool (!decide (a = b)), H⟩ := by
  simp only [vari, B, eqB]

theorem wrap_toInt (w : BitVec 64) : IntKind.i64.wrap (w.toNat : Int) = w.toInt := by
  have := w.isLt
  rw [wrap_i, BitVec.toInt_eq_toNat_cond]
  split <;> split <;> omega
theorem cv_i64W (w : BitVec 64) (H : Hp) : vconv .i64 (W w) H = ⟨True, .int .i64 w.toInt, H⟩ := by
  rw [vconv_Wi, wrap_toInt]
theorem cv_i64 (k : IntKind) (a : Int) (H : Hp) : vconv .i64 (.int k a) H = ⟨True, .int .i64 (IntKind.i64.wrap a), H⟩ := rfl
theorem cv_i32 (k : IntKind) (a : Int) (H : Hp) : vconv .i32 (.int k a) H = ⟨True, .int .i32 (IntKind.i32.wrap a), H⟩ := rfl
theorem cv_u32 (k : IntKind) (a : Int) (H : Hp) : vconv .u32 (.int k a) H = ⟨True, .int .u32 (IntKind.u32.wrap a), H⟩ := rfl
theorem cv_u64 (k : IntKind) (a : Int) (H : Hp) : vconv .u64 (.int k a) H = ⟨True, W (BitVec.ofInt 64 a), H⟩ := by
  simp only [vconv, W, wrap_u, BitVec.toNat_ofInt]; congr 2; omega
theorem cv_u64W (w : BitVec 64) (H : Hp) : vconv .u64 (W w) H = ⟨True, W w, H⟩ := by
  have := w.isLt
  simp only [vconv, W, wrap_u]; congr 2; omega
theorem cv_u8 (k : IntKind) (a : Int) (H : Hp) : vconv .u8 (.int k a) H = ⟨True, B (BitVec.ofInt 8 a), H⟩ := by
  simp only [vconv, B, wrap_b, BitVec.toNat_ofInt]; congr 2; omega
theorem cv_i32W (w : BitVec 64) (H : Hp) : vconv .i32 (W w) H = ⟨True, .int .i32 (w.setWidth 32).toInt, H⟩ := by
  have := w.isLt
  have h : IntKind.i32.wrap (w.toNat : Int) = (w.setWidth 32).toInt := by
    have e : IntKind.i32.wrap (w.toNat : Int) = if (w.toNat : Int) % 4294967296 ≥ 2147483648 then (w.toNat : Int) % 4294967296 - 4294967296 else (w.toNat : Int) % 4294967296 := by simp [IntKind.wrap, IntKind.bits, IntKind.signed]
    rw [e, BitVec.toInt_eq_toNat_cond, BitVec.toNat_setWidth]
    split <;> split <;> omega
  simp only [vconv, W, h]
theorem cv_u8B (b : BitVec 8) (H : Hp) : vconv .u8 (B b) H = ⟨True, B b, H⟩ := by
  have := b.isLt
  simp only [vconv, B, wrap_b]; congr 2; omega

theorem v_shlW (k : IntKind) (a : Int) (w : BitVec 64) (H : Hp) : vari .shl (.int k a) (W w) H = ⟨True, .int k (k.wrap (a * 2 ^ min w.toNat k.bits)), H⟩ := by
  simp only [vari, W, Int.toNat_natCast]; congr 1; simp
theorem v_shrW (k : IntKind) (a : Int) (w : BitVec 64) (H : Hp) : vari .shr (.int k a) (W w) H = ⟨True, .int k (a.fdiv (2 ^ min w.toNat k.bits)), H⟩ := by
  simp only [vari, W, Int.toNat_natCast]; congr 1; simp
theorem ofInt_nat' (n : Int) (h0 : 0 ≤ n) (h : n < 18446744073709551616) : (BitVec.ofInt 64 n).toNat = n.toNat := by
  rw [BitVec.toNat_ofInt]; omega
theorem bits_i64 : IntKind.i64.bits = 64 := rfl
theorem bits_u64 : IntKind.u64.bits = 64 := rfl
/- Runs that stop. -/
def RoL (M : Seat) (K : List V → Hp → Prop) (d : Option Nat) (r : List LOp) (n : Nat) (A : List V) (v : V) (H : Hp) : Prop := Ro M K r n (put A d v) H
theorem RoLE (M : Seat) (K : List V → Hp → Prop) (d : Option Nat) (r : List LOp) (n : Nat) (A : List V) (v : V) (H : Hp) : RoL M K d r n A v H = Ro M K r n (put A d v) H := rfl
theorem RoC' (M : Seat) (K : List V → Hp → Prop) (d : Option Nat) (f : Nat) (xs : List X) (r : List LOp) (n : Nat) (A : List V) (H : Hp) : Ro M K (⟨d, .call f xs, none⟩ :: r) n A H = CallK M f (xs.map (X.ev A)) H n (RoL M K d r (n + 16) A) := rfl
theorem RoY' (M : Seat) (K : List V → Hp → Prop) (d : Option Nat) (u : X) (xs : List X) (r : List LOp) (n : Nat) (A : List V) (H : Hp) : Ro M K (⟨d, .dyn u xs, none⟩ :: r) n A H = DynK M (u.ev A) (xs.map (X.ev A)) H n (RoL M K d r (n + 16) A) := rfl

/-- An outcome, and what stands behind it. -/
def outK (o : Out) (M : Seat) (K : List V → Hp → Prop) (d : Option Nat) (r : List LOp) (n : Nat) (A : List V) : Prop := o.pre ∧ Ro M K r n (put A d o.v) o.H
theorem RoO' (M : Seat) (K : List V → Hp → Prop) (d : Option Nat) (o : LO) (r : List LOp) (n : Nat) (A : List V) (H : Hp) : Ro M K (⟨d, .lo o, none⟩ :: r) n A H = outK (step A H n o) M K d r (n + 16) A := rfl
theorem outKE (P : Prop) (v : V) (H : Hp) (M : Seat) (K : List V → Hp → Prop) (d : Option Nat) (r : List LOp) (n : Nat) (A : List V) : outK ⟨P, v, H⟩ M K d r n A = (P ∧ Ro M K r n (put A d v) H) := rfl

/-- An operation that waits for a condition. -/
def GuardK (v : V) (b : Bool) (M : Seat) (K : List V → Hp → Prop) (d : Option Nat) (k : LK) (r : List LOp) (n : Nat) (A : List V) (H : Hp) : Prop :=
  match v with
  | .bool b' => (b' = b → Ro M K (⟨d, k, none⟩ :: r) n A H) ∧ (b' = !b → Ro M K r (n + 16) (put A d (.tup .fnil)) H)
  | .tup _ => Ro M K r (n + 16) (put A d (.tup .fnil)) H
  | _ => False
theorem RoG' (M : Seat) (K : List V → Hp → Prop) (d : Option Nat) (k : LK) (t : Nat) (b : Bool) (r : List LOp) (n : Nat) (A : List V) (H : Hp) : Ro M K (⟨d, k, some (t, b)⟩ :: r) n A H = GuardK (A.getD t .junk) b M K d k r n A H := by
  first | rfl | (simp only [Ro, GuardK]; cases A.getD t .junk <;> rfl)
theorem GuardTT (M : Seat) (K : List V → Hp → Prop) (d : Option Nat) (k : LK) (r : List LOp) (n : Nat) (A : List V) (H : Hp) : GuardK (.bool true) true M K d k r n A H = Ro M K (⟨d, k, none⟩ :: r) n A H := by simp [GuardK]
theorem GuardFF (M : Seat) (K : List V → Hp → Prop) (d : Option Nat) (k : LK) (r : List LOp) (n : Nat) (A : List V) (H : Hp) : GuardK (.bool false) false M K d k r n A H = Ro M K (⟨d, k, none⟩ :: r) n A H := by simp [GuardK]
theorem GuardTF (M : Seat) (K : List V → Hp → Prop) (d : Option Nat) (k : LK) (r : List LOp) (n : Nat) (A : List V) (H : Hp) : GuardK (.bool true) false M K d k r n A H = Ro M K r (n + 16) (put A d (.tup .fnil)) H := by simp [GuardK]
theorem GuardFT (M : Seat) (K : List V → Hp → Prop) (d : Option Nat) (k : LK) (r : List LOp) (n : Nat) (A : List V) (H : Hp) : GuardK (.bool false) true M K d k r n A H = Ro M K r (n + 16) (put A d (.tup .fnil)) H := by simp [GuardK]
theorem GuardU (v : V) (b : Bool) (M : Seat) (K : List V → Hp → Prop) (d : Option Nat) (k : LK) (r : List LOp) (n : Nat) (A : List V) (H : Hp) : GuardK (.tup v) b M K d k r n A H = Ro M K r (n + 16) (put A d (.tup .fnil)) H := rfl

/-- A condition. -/
def CondK (v : V) (M : Seat) (x : Ctx) (Q : List V → Hp → Nat → Prop) (n : Nat) (c d : LC) (k : List It) (N : Nat) (A : List V) (H : Hp) : Prop :=
  match v with
  | .bool t => (t = true → ex M x Q n (.code c :: k) N A H) ∧ (t = false → ex M x Q n (.code d :: k) N A H)
  | _ => False
theorem exCond' (M : Seat) (x : Ctx) (Q : List V → Hp → Nat → Prop) (n : Nat) (y : X) (c d : LC) (k : List It) (N : Nat) (A : List V) (H : Hp) : ex M x Q (n + 1) (.code (.cond y c d) :: k) N A H = CondK (y.ev A) M x Q n c d k N A H := rfl
theorem CondT (M : Seat) (x : Ctx) (Q : List V → Hp → Nat → Prop) (n : Nat) (c d : LC) (k : List It) (N : Nat) (A : List V) (H : Hp) : CondK (.bool true) M x Q n c d k N A H = ex M x Q n (.code c :: k) N A H := by simp [CondK]
theorem CondF (M : Seat) (x : Ctx) (Q : List V → Hp → Nat → Prop) (n : Nat) (c d : LC) (k : List It) (N : Nat) (A : List V) (H : Hp) : CondK (.bool false) M x Q n c d k N A H = ex M x Q n (.code d :: k) N A H := by simp [CondK]

/- What is not decided: both ways. -/
theorem CondK.by {b : Bool} {M : Seat} {x : Ctx} {Q : List V → Hp → Nat → Prop} {n : Nat} {c d : LC} {k : List It} {N : Nat} {A : List V} {H : Hp} (h1 : b = true → ex M x Q n (.code c :: k) N A H) (h2 : b = false → ex M x Q n (.code d :: k) N A H) : CondK (.bool b) M x Q n c d k N A H := ⟨h1, h2⟩
/- Regions that draw their order. -/
def RoDC (M : Seat) (K : List V → Hp → Prop) (m N wm bf : Nat) (d : Option Nat) (k : LK) (r : List DOp) (p : Nat) (A : List V) (bd : List (Nat × Hp)) (al : List (Nat × Nat × V)) (v : V) (H' : Hp) : Prop :=
  (epk A (bs N m p k) k v wm bf al bd ∧ (bif k.isW then idsOK (N + 16 * p) (N + 16 * m) H' else True)) ∧
      RoD M K m N wm r (p + 1) (put A d v) H' (bif k.isW then (p + 1, H') :: bd else bd) (bif k.isA then (p, bs N m p k, hget H' (bs N m p k)) :: al else al)
def OpDC (M : Seat) (f : Nat) (us : List V) (H : Hp) (b : Nat) (C : V → Hp → Prop) : Prop := ∃ v H', CallK M f us H b (fun v' H'' => v' = v ∧ H'' = H') ∧ C v H'
def OpDO (o : Out) (C : V → Hp → Prop) : Prop := o.pre ∧ C o.v o.H
theorem OpDOE (P : Prop) (v : V) (H : Hp) (C : V → Hp → Prop) : OpDO ⟨P, v, H⟩ C = (P ∧ C v H) := rfl
theorem RoDC_call (M : Seat) (K : List V → Hp → Prop) (m N wm ix bf : Nat) (d : Option Nat) (f : Nat) (xs : List X) (r : List DOp) (p : Nat) (A : List V) (H : Hp) (bd : List (Nat × Hp)) (al : List (Nat × Nat × V)) : RoD M K m N wm (⟨ix, bf, ⟨d, .call f xs, none⟩⟩ :: r) p A H bd al =
    OpDC M f (xs.map (X.ev A)) H (bs N m p (.call f xs)) (RoDC M K m N wm bf d (.call f xs) r p A bd al) := rfl
theorem RoDO_lo (M : Seat) (K : List V → Hp → Prop) (m N wm ix bf : Nat) (d : Option Nat) (o : LO) (r : List DOp) (p : Nat) (A : List V) (H : Hp) (bd : List (Nat × Hp)) (al : List (Nat × Nat × V)) : RoD M K m N wm (⟨ix, bf, ⟨d, .lo o, none⟩⟩ :: r) p A H bd al =
    OpDO (step A H (bs N m p (.lo o)) o) (RoDC M K m N wm bf d (.lo o) r p A bd al) := rfl
def OpDY (M : Seat) (u : V) (us : List V) (H : Hp) (b : Nat) (C : V → Hp → Prop) : Prop := ∃ v H', DynK M u us H b (fun v' H'' => v' = v ∧ H'' = H') ∧ C v H'
theorem RoDC_dyn (M : Seat) (K : List V → Hp → Prop) (m N wm ix bf : Nat) (d : Option Nat) (x : X) (xs : List X) (r : List DOp) (p : Nat) (A : List V) (H : Hp) (bd : List (Nat × Hp)) (al : List (Nat × Nat × V)) : RoD M K m N wm (⟨ix, bf, ⟨d, .dyn x xs, none⟩⟩ :: r) p A H bd al =
    OpDY M (x.ev A) (xs.map (X.ev A)) H (bs N m p (.dyn x xs)) (RoDC M K m N wm bf d (.dyn x xs) r p A bd al) := rfl
theorem RoDCE (M : Seat) (K : List V → Hp → Prop) (m N wm bf : Nat) (d : Option Nat) (k : LK) (r : List DOp) (p : Nat) (A : List V) (bd : List (Nat × Hp)) (al : List (Nat × Nat × V)) (v : V) (H' : Hp) : RoDC M K m N wm bf d k r p A bd al v H' =
  ((epk A (bs N m p k) k v wm bf al bd ∧ (bif k.isW then idsOK (N + 16 * p) (N + 16 * m) H' else True)) ∧
      RoD M K m N wm r (p + 1) (put A d v) H' (bif k.isW then (p + 1, H') :: bd else bd) (bif k.isA then (p, bs N m p k, hget H' (bs N m p k)) :: al else al)) := rfl
def GuardD (v : V) (b : Bool) (M : Seat) (K : List V → Hp → Prop) (m N wm ix bf : Nat) (d : Option Nat) (k : LK) (r : List DOp) (p : Nat) (A : List V) (H : Hp) (bd : List (Nat × Hp)) (al : List (Nat × Nat × V)) : Prop :=
  match v with
  | .bool b' => (b' = b → RoD M K m N wm (⟨ix, bf, ⟨d, k, none⟩⟩ :: r) p A H bd al) ∧ (b' = !b → RoD M K m N wm r (p + 1) (put A d (.tup .fnil)) H (bif k.isW then (p + 1, H) :: bd else bd) al)
  | .tup _ => RoD M K m N wm r (p + 1) (put A d (.tup .fnil)) H (bif k.isW then (p + 1, H) :: bd else bd) al
  | _ => False
theorem RoDG' (M : Seat) (K : List V → Hp → Prop) (m N wm ix bf : Nat) (d : Option Nat) (k : LK) (t : Nat) (b : Bool) (r : List DOp) (p : Nat) (A : List V) (H : Hp) (bd : List (Nat × Hp)) (al : List (Nat × Nat × V)) : RoD M K m N wm (⟨ix, bf, ⟨d, k, some (t, b)⟩⟩ :: r) p A H bd al = GuardD (A.getD t .junk) b M K m N wm ix bf d k r p A H bd al := by
  rw [RoD]; unfold GuardD; cases A.getD t .junk <;> rfl
section
variable (M : Seat) (K : List V → Hp → Prop) (m N wm ix bf : Nat) (d : Option Nat) (k : LK) (r : List DOp) (p : Nat) (A : List V) (H : Hp) (bd : List (Nat × Hp)) (al : List (Nat × Nat × V))
theorem GuardDTT : GuardD (.bool true) true M K m N wm ix bf d k r p A H bd al = RoD M K m N wm (⟨ix, bf, ⟨d, k, none⟩⟩ :: r) p A H bd al := by simp [GuardD]
theorem GuardDFF : GuardD (.bool false) false M K m N wm ix bf d k r p A H bd al = RoD M K m N wm (⟨ix, bf, ⟨d, k, none⟩⟩ :: r) p A H bd al := by simp [GuardD]
theorem GuardDTF : GuardD (.bool true) false M K m N wm ix bf d k r p A H bd al = RoD M K m N wm r (p + 1) (put A d (.tup .fnil)) H (bif k.isW then (p + 1, H) :: bd else bd) al := by simp [GuardD]
theorem GuardDFT : GuardD (.bool false) true M K m N wm ix bf d k r p A H bd al = RoD M K m N wm r (p + 1) (put A d (.tup .fnil)) H (bif k.isW then (p + 1, H) :: bd else bd) al := by simp [GuardD]
theorem GuardDU (v : V) (b : Bool) : GuardD (.tup v) b M K m N wm ix bf d k r p A H bd al = RoD M K m N wm r (p + 1) (put A d (.tup .fnil)) H (bif k.isW then (p + 1, H) :: bd else bd) al := rfl
end
theorem GuardK.by {b' b : Bool} {M : Seat} {K : List V → Hp → Prop} {d : Option Nat} {k : LK} {r : List LOp} {n : Nat} {A : List V} {H : Hp} (h1 : b' = b → Ro M K (⟨d, k, none⟩ :: r) n A H) (h2 : b' = !b → Ro M K r (n + 16) (put A d (.tup .fnil)) H) : GuardK (.bool b') b M K d k r n A H := ⟨h1, h2⟩
end Mv
namespace Mv
open Go
set_option linter.defProp false
theorem eqP_zz (c : Bool) : veqP c .ptr .nilp .nilp = True := rfl
theorem eqV_zz : veqV .ptr .nilp .nilp = true := rfl
theorem eqP_ni (c : Bool) (ts : List Nat) (t : Nat) (v : V) : veqP c (.iface ts) .nili (.ifc t v) = True := by cases v <;> simp [veqP]
theorem eqV_ni (ts : List Nat) (t : Nat) (v : V) : veqV (.iface ts) .nili (.ifc t v) = false := by cases v <;> rfl
theorem eqP_b (c a b : Bool) : veqP c .bool (.bool a) (.bool b) = True := rfl
theorem eqV_b (a b : Bool) : veqV .bool (.bool a) (.bool b) = (a == b) := by cases a <;> cases b <;> rfl
theorem eqP_i (c : Bool) (k : IntKind) (a b : Int) : veqP c .int (.int k a) (.int k b) = True := by simp [veqP]
theorem eqV_i (k k' : IntKind) (a b : Int) : veqV .int (.int k a) (.int k' b) = decide (a = b) := rfl
theorem eqP_e (c : Bool) (a b : Int) : veqP c (.iface [74]) (.ifc 74 (.int .i64 a)) (.ifc 74 (.int .i64 b)) = True := by simp [veqP]
theorem eqV_e (ts : List Nat) (t : Nat) (a b : Int) : veqV (.iface ts) (.ifc t (.int .i64 a)) (.ifc t (.int .i64 b)) = decide (a = b) := by simp [veqV]
theorem condT (a b : Prop) : (bif true then a else b) = a := rfl
theorem condF (a b : Prop) : (bif false then a else b) = b := rfl
theorem mapc (f : X → V) (a : X) (l : List X) : (a :: l).map f = f a :: l.map f := rfl
theorem mapn (f : X → V) : ([] : List X).map f = [] := rfl
theorem mapT {a b : Bool} : (bif true then a else b) = a := rfl
theorem mapOn (f : X → V) : (none : Option X).map f = none := rfl
theorem mapOs (f : X → V) (a : X) : (some a).map f = some (f a) := rfl
theorem mcons (a : V) (l m : List V) : a :: l ++ m = a :: (l ++ m) := rfl
theorem fcT (a b : List (Nat × Hp)) : (bif true then a else b) = a := rfl
theorem fcF (a b : List (Nat × Hp)) : (bif false then a else b) = b := rfl
theorem flN (f : Nat × Nat × V → Bool) : ([] : List (Nat × Nat × V)).filter f = [] := rfl
theorem lenX (a : LOp) (l : List LOp) : (a :: l).length = l.length + 1 := rfl
theorem neN (a b : Nat) : (a ≠ b) = ¬ (a = b) := rfl
theorem neI (a b : Int) : (a ≠ b) = ¬ (a = b) := rfl
theorem neW (a b : BitVec 64) : (a ≠ b) = ¬ (a = b) := rfl
theorem nlz (n : Nat) : (n < 0) = False := by simp
theorem bTF : (true == false) = false := rfl
theorem bFT : (false == true) = false := rfl
theorem lenN : ([] : List LOp).length = 0 := rfl

def LG := (And.intro (And.intro (And.intro (And.intro (And.intro (And.intro (And.intro (And.intro @vpk_b @stp_pick) (And.intro @vpick_T (And.intro @vpick_F @vpick_Tt))) (And.intro (And.intro @vpick_Ft (And.intro @vpick_bb @stp_mv)) (And.intro @stp_ari (And.intro @stp_un @stp_eq)))) (And.intro (And.intro (And.intro @stp_alloc @stp_box) (And.intro @stp_build (And.intro @stp_bsl @vload_p))) (And.intro (And.intro @vload_i (And.intro @stp_load @vstore_p)) (And.intro @stp_store (And.intro @vnilc_p @vnilc_i))))) (And.intro (And.intro (And.intro (And.intro @vnilc_f @vnilc_c) (And.intro @stp_nilc (And.intro @vfadr_p @vfadr_i))) (And.intro (And.intro @stp_fadr (And.intro @viarr_p @viarr_pW)) (And.intro @viarr_i (And.intro @viarr_iW @stp_iarr)))) (And.intro (And.intro (And.intro @visl_s @visl_sW) (And.intro @visl_l (And.intro @visl_lW @stp_isl))) (And.intro (And.intro @vidx_a (And.intro @vidx_aW @stp_idx)) (And.intro @vfld_s (And.intro @stp_fld @bnd_n)))))) (And.intro (And.intro (And.intro (And.intro (And.intro @bnd_i @bnd_W) (And.intro @bndI_n (And.intro @bndI_i @bndI_W))) (And.intro (And.intro @isAr_a (And.intro @vslarr_p @vslarr_i)) (And.intro @stp_slarr (And.intro @vslsl_s @vslsl_l)))) (And.intro (And.intro (And.intro @vslsl_n @stp_slsl) (And.intro @vs2a_s (And.intro @vs2a_l @stp_s2a))) (And.intro (And.intro @stp_mkif (And.intro @vext_t @stp_ext)) (And.intro @vlen_s (And.intro @vlen_l @vlen_n))))) (And.intro (And.intro (And.intro (And.intro @vlen_str @vlen_nm) (And.intro @stp_len (And.intro @stp_mkfn @vmm_max))) (And.intro (And.intro @vmm_min (And.intro @stp_mm @vsidx_s)) (And.intro @stp_sidx (And.intro @stp_mclone @vmcl_i)))) (And.intro (And.intro (And.intro @vmcl'_m (And.intro @stp_tas @stp_mkmth)) (And.intro @stp_nilm (And.intro @vadd64_W @stp_add64))) (And.intro (And.intro @vmksl_i (And.intro @stp_mksl @stp_app)) (And.intro @vapp_n (And.intro @vapp_s @vapp'_n))))))) (And.intro (And.intro (And.intro (And.intro (And.intro (And.intro @vapp'_s @elems_l) (And.intro @elemsB_a (And.intro @elems_s @elemsC_a))) (And.intro (And.intro @elemsOK_l (And.intro @elemsOK_s @elems_n)) (And.intro @stp_copy (And.intro @vcpy_sn @vcpy_sl)))) (And.intro (And.intro (And.intro @vcpy_ss @vcpy'_a) (And.intro @W_lit' (And.intro @B_lit' @vW_add))) (And.intro (And.intro @vW_sub (And.intro @vW_mul @vW_quo)) (And.intro @vW_rem (And.intro @vW_lss @vW_leq))))) (And.intro (And.intro (And.intro (And.intro @vW_gtr @vW_geq) (And.intro @vW_neg (And.intro @vW_shlW @vW_shrW))) (And.intro (And.intro @vB_eql (And.intro @vB_neq @cv_i64W)) (And.intro @cv_i64 (And.intro @cv_i32 @cv_u32)))) (And.intro (And.intro (And.intro @cv_u64 (And.intro @cv_u64W @cv_u8)) (And.intro @cv_i32W (And.intro @cv_u8B @vconv_B))) (And.intro (And.intro @vconv_W (And.intro @vconv_Bi @vari_shl)) (And.intro @vari_shr (And.intro @vari_eql_W @vari_neq_W)))))) (And.intro (And.intro (And.intro (And.intro (And.intro @vari_xor @vari_and) (And.intro @vari_or (And.intro @vun_xor @xor_B))) (And.intro (And.intro @v_add (And.intro @v_sub @v_mul)) (And.intro @v_quo (And.intro @v_rem @v_shl)))) (And.intro (And.intro (And.intro @v_shr @v_shlW) (And.intro @v_shrW (And.intro @bits_i64 @bits_u64))) (And.intro (And.intro @v_lss (And.intro @v_leq @v_gtr)) (And.intro @v_geq (And.intro @v_eql @v_neq))))) (And.intro (And.intro (And.intro (And.intro @v_not @RoLE) (And.intro @RoC' (And.intro @RoY' @RoO'))) (And.intro (And.intro @outKE (And.intro @RoG' @GuardTT)) (And.intro @GuardFF (And.intro @GuardTF @GuardFT)))) (And.intro (And.intro (And.intro @GuardU (And.intro @RoN @exCond')) (And.intro @CondT (And.intro @CondF @RoDC_call))) (And.intro (And.intro @RoDC_dyn (And.intro @RoDO_lo @OpDOE)) (And.intro @RoDCE (And.intro @RoDG' @GuardDTT)))))))) (And.intro (And.intro (And.intro (And.intro (And.intro (And.intro (And.intro @GuardDFF @GuardDTF) (And.intro @GuardDFT (And.intro @GuardDU @RoDN))) (And.intro (And.intro @exZ (And.intro @exN @exSkip)) (And.intro @exReg (And.intro @exRegd @exSeq)))) (And.intro (And.intro (And.intro @exBlock @exLoop) (And.intro @exExit (And.intro @exRet @exBlk))) (And.intro (And.intro @exInv (And.intro @step_conv @put_fr)) (And.intro @put_none (And.intro @fr_same @fr_ne))))) (And.intro (And.intro (And.intro (And.intro @fr_nil @fr_length) (And.intro @not_false_eq_true (And.intro @true_and @and_true))) (And.intro (And.intro @true_or (And.intro @or_true @and_self)) (And.intro @false_and (And.intro @and_false @neN)))) (And.intro (And.intro (And.intro @neI (And.intro @neW @not_true_eq_false)) (And.intro @solid_W (And.intro @size_W @agg_W))) (And.intro (And.intro @solid_B (And.intro @size_B @agg_B)) (And.intro @solid_dg (And.intro @size_dg @agg_dg)))))) (And.intro (And.intro (And.intro (And.intro (And.intro @dgs_at @ws_at) (And.intro @bys_at (And.intro @veqP_dg @veqV_dg))) (And.intro (And.intro @solid_int (And.intro @solid_bool @solid_str)) (And.intro @solid_nilp (And.intro @solid_ptr @solid_imm)))) (And.intro (And.intro (And.intro @solid_nils @solid_sl) (And.intro @solid_lst (And.intro @solid_nilm @solid_map))) (And.intro (And.intro @solid_nilf (And.intro @solid_fn @solid_nili)) (And.intro @solid_ifc (And.intro @solid_st @solid_ar))))) (And.intro (And.intro (And.intro (And.intro @size_int @size_bool) (And.intro @size_str (And.intro @size_nilp @size_ptr))) (And.intro (And.intro @size_imm (And.intro @size_nils @size_sl)) (And.intro @size_lst (And.intro @size_nilm @size_map)))) (And.intro (And.intro (And.intro @size_nilf (And.intro @size_fn @size_nili)) (And.intro @size_ifc (And.intro @size_st @size_ar))) (And.intro (And.intro @agg_int (And.intro @agg_bool @agg_str)) (And.intro @agg_nilp (And.intro @agg_ptr @agg_imm))))))) (And.intro (And.intro (And.intro (And.intro (And.intro (And.intro @agg_nils @agg_sl) (And.intro @agg_lst (And.intro @agg_nilm @agg_map))) (And.intro (And.intro @agg_nilf (And.intro @agg_fn @agg_nili)) (And.intro @agg_ifc (And.intro @agg_st @agg_ar)))) (And.intro (And.intro (And.intro @Bool.not_true @Bool.not_false) (And.intro @Bool.and_true (And.intro @Bool.true_and @Bool.or_true))) (And.intro (And.intro @Bool.true_or (And.intro @Bool.or_false @Bool.false_or)) (And.intro @Bool.false_and (And.intro @Bool.and_false @Bool.false_xor))))) (And.intro (And.intro (And.intro (And.intro @Bool.xor_false @Bool.true_xor) (And.intro @Bool.xor_true (And.intro @Bool.not_not @Bool.and_self))) (And.intro (And.intro @Bool.or_self (And.intro @Int.toNat_natCast @Int.toNat_zero)) (And.intro @Nat.add_zero (And.intro @Nat.zero_add @Nat.sub_zero)))) (And.intro (And.intro (And.intro @Int.natCast_zero (And.intro @Nat.mul_zero @Nat.zero_or)) (And.intro @Nat.or_zero (And.intro @Nat.and_zero @Nat.zero_and))) (And.intro (And.intro @Nat.zero_shiftRight (And.intro @decide_true @decide_false)) (And.intro @GLv1 (And.intro @GLv2 @GLv3)))))) (And.intro (And.intro (And.intro (And.intro (And.intro @and_assoc @eqP_nn) (And.intro @eqV_nn (And.intro @eqP_in @eqV_in))) (And.intro (And.intro @eqP_ni (And.intro @eqV_ni @eqP_pn)) (And.intro @eqV_pn (And.intro @eqP_mn @eqV_mn)))) (And.intro (And.intro (And.intro @eqP_zz @eqV_zz) (And.intro @eqP_b (And.intro @eqV_b @eqP_i))) (And.intro (And.intro @eqV_i (And.intro @eqP_e @eqV_e)) (And.intro @Bool.false_eq_true (And.intro @Bool.true_eq_false @false_implies))))) (And.intro (And.intro (And.intro (And.intro @true_implies @condT) (And.intro @condF (And.intro @mapc @mapn))) (And.intro (And.intro @mapT (And.intro @mapOn @mapOs)) (And.intro @mcons (And.intro @Nat.le_refl @Int.le_refl)))) (And.intro (And.intro (And.intro @fcT (And.intro @fcF @flN)) (And.intro @lenX (And.intro @lenN @nlz))) (And.intro (And.intro @bTF (And.intro @bFT @poBb)) (And.intro @dropTo.eq_1 (And.intro @dropTo.eq_2 @dropTo.eq_3)))))))))
end Mv
namespace Mv
open Go
theorem Inv.sim2 {M : Seat} {c c' : Ctx} {e : Env} {H : Hp} (hI : Inv M c e H) {m z : List Nat} (hm : m.Nodup) (hz : ∀ i ∈ z, i ∉ m) {H' : Hp} (hH : SimH H m z H')
    (hc : (c' = c ∧ ∀ j, j < c.k → m[j]? = some j) ∨ (c' = ⟨e.sim H m z, fun b => ∃ id, hhas H' id = true ∧ (e.sim H m z).ρ id = b, m.length⟩ ∧ ∀ i ∈ m, e.D i)) : Inv M c' (e.sim H m z) H' := by
  have hp := Pull.of hI m z
  have hblk : ∀ j, hhas H' j = true → (e.sim H m z).D j ∧ BlkOK (e.sim H m z) j (hget H' j) ∧ ¬ (e.sim H m z).im ((e.sim H m z).ρ j) ∧ (c.O ((e.sim H m z).ρ j) ∨ c.e0.w.heap.size ≤ (e.sim H m z).ρ j) := by
    intro j hj
    obtain ⟨i, h1, h2, h3⟩ := SimH_get hH j hj
    obtain ⟨k1, k2, k3, k4⟩ := hI.blk i h2
    have hρ : (e.sim H m z).ρ j = e.ρ i := by simp [Env.sim, h1]
    refine ⟨⟨i, h1, k1⟩, BlkOK_sim hp hρ h3 k2, ?_, ?_⟩
    · rw [hρ]
      rintro (h | ⟨i', hf, he⟩)
      · exact k3 h
      · obtain ⟨f1, f2, _⟩ := frz_of hf
        have := hI.inj i i' h2 f2 he
        subst this
        exact hz _ f1 (List.mem_of_getElem? h1)
    · rw [hρ]; exact k4
  have hinj : ∀ i j, hhas H' i = true → hhas H' j = true → (e.sim H m z).ρ i = (e.sim H m z).ρ j → i = j := by
    intro i j hi hj hij
    obtain ⟨i', h1, h2, _⟩ := SimH_get hH i hi
    obtain ⟨j', h3, h4, _⟩ := SimH_get hH j hj
    simp only [Env.sim, h1, h3] at hij
    have := hI.inj i' j' h2 h4 hij
    subst this
    exact getElem?_nodup hm h1 h3
  have himo : ∀ b, (e.sim H m z).im b → c.e0.im b ∨ c.O b ∨ c.e0.w.heap.size ≤ b := by
    rintro b (h | ⟨i, hf, rfl⟩)
    · exact hI.imo b h
    · exact .inr (hI.blk i (frz_of hf).2.1).2.2.2
  have himb : ∀ b, (e.sim H m z).im b → ∃ cells el fz, (e.sim H m z).w.heap[b]? = some (.cells cells el fz) := by
    rintro b (h | ⟨i, hf, rfl⟩)
    · exact hI.imb b h
    · obtain ⟨_, cells, el, h1, _⟩ := hp.fz i hf
      exact ⟨cells, el, _, h1⟩
  have hrb : ∀ id, (e.sim H m z).D id → (e.sim H m z).ρ id < (e.sim H m z).w.heap.size := by
    rintro id ⟨i, h1, h2⟩
    simp only [Env.sim, h1]
    exact hI.rb i h2
  have hgs : GS M (e.sim H m z) := ⟨fun g hg =>
    R_sim hp (show Sim H m z (.imm (GLv g)) (.imm (GLv g)) from GLv_sim H m z g) (hI.gs.1 g hg), fun p hp' => ⟨.inl (hI.gs.2 p hp').1, (hI.gs.2 p hp').2⟩⟩
  rcases hc with ⟨rfl, hlow⟩ | ⟨rfl, hall⟩
  · refine ⟨hI.ev, hblk, hinj, himo, himb, hrb, fun b hb => .inl (hI.keep b hb), fun id hid => ?_, hgs, hI.φ, hI.τ⟩
    obtain ⟨h1, h2⟩ := hI.low id hid
    exact ⟨⟨id, hlow id hid, h1⟩, by simp only [Env.sim, hlow id hid]; exact h2⟩
  · refine ⟨Ev.refl _ _, fun j hj => ⟨(hblk j hj).1, (hblk j hj).2.1, (hblk j hj).2.2.1, .inl ⟨j, hj, rfl⟩⟩, hinj, fun b hb => .inl hb, himb, hrb, fun b hb => hb, fun id hid => ⟨?_, rfl⟩, hgs, hI.φ, hI.τ⟩
    have hid' : id < m.length := hid
    exact ⟨m[id], List.getElem?_eq_getElem hid', hall _ (List.getElem_mem hid')⟩

/-- An argument that names a block. -/
def inArgs (us : List V) (i : Nat) : Bool := us.any fun v => match v with | .ptr j _ => j == i | .map j => j == i | .sl j _ _ _ _ => j == i | _ => false
theorem inArgs_D {e : Env} {us : List V} {vs : Array Value} (h : Args e us vs) {i : Nat} (hi : inArgs us i = true) : e.D i := by
  unfold inArgs at hi
  rw [List.any_eq_true] at hi
  obtain ⟨v, hv, hvi⟩ := hi
  obtain ⟨t, ht, rfl⟩ := List.getElem_of_mem hv
  have := h.2 t
  rw [show us.getD t .junk = us[t] by simp [List.getD, ht]] at this
  generalize us[t] = v at *
  cases v <;> simp only [Bool.false_eq_true, beq_iff_eq] at hvi
  all_goals (subst hvi; simp only [RV, RS, V.isAgg, R] at this; exact this.1)

/-- Does a value name this block? -/
def refsV (i : Nat) : V → Bool
  | .ptr j _ => j == i
  | .map j => j == i
  | .sl j _ _ _ _ => j == i
  | .ifc _ v => refsV i v
  | .st _ fs => refsV i fs
  | .fcons _ v r => refsV i r || refsV i v
  | _ => false
theorem refsV_D {e : Env} {i : Nat} : ∀ {v : V} {cs : List Value}, R e v cs → refsV i v = true → e.D i
  | .ptr j p, cs, h, hi => by simp only [refsV, beq_iff_eq] at hi; subst hi; simp only [R] at h; exact h.1
  | .map j, cs, h, hi => by simp only [refsV, beq_iff_eq] at hi; subst hi; simp only [R] at h; exact h.1
  | .sl j _ _ _ _, cs, h, hi => by simp only [refsV, beq_iff_eq] at hi; subst hi; simp only [R] at h; exact h.1
  | .ifc _ v, cs, h, hi => by
    simp only [R] at h
    obtain ⟨x, _, _, h⟩ := h
    split at h
    · obtain ⟨c, _, h⟩ := h; exact refsV_D h hi
    · exact refsV_D h hi
  | .st _ fs, cs, h, hi => by simp only [R] at h; exact refsV_D h.2.2 hi
  | .fcons _ v r, cs, h, hi => by
    simp only [R] at h
    simp only [refsV, Bool.or_eq_true] at hi
    exact hi.elim (refsV_D h.2.2.2.2) (refsV_D h.2.2.2.1)
  | .junk, _, _, hi | .int .., _, _, hi | .bool _, _, _, hi | .str _, _, _, hi | .nilp, _, _, hi | .imm _, _, _, hi | .nils, _, _, hi | .lst .., _, _, hi | .nilm, _, _, hi | .nilf, _, _, hi | .fn .., _, _, hi | .nili, _, _, hi | .ar .., _, _, hi | .fnil, _, _, hi | .tup _, _, _, hi | .mp .., _, _, hi => by simp [refsV] at hi
/-- Does one of these blocks of the heap name this block? -/
def inHp (l : List Nat) (H : Hp) (i : Nat) : Bool := l.any fun p => hhas H p && (hget H p).solid && refsV i (hget H p)
theorem inHp_D {M : Seat} {c : Ctx} {e : Env} {l : List Nat} {H : Hp} (hI : Inv M c e H) {i : Nat} (hi : inHp l H i = true) : e.D i := by
  unfold inHp at hi
  rw [List.any_eq_true] at hi
  obtain ⟨p, _, hp⟩ := hi
  simp only [Bool.and_eq_true] at hp
  obtain ⟨_, _, _, _, hR⟩ := hI.cells hp.1.1 hp.1.2
  exact refsV_D hR hp.2

/-- A call, by a contract. 'm': the caller's numbers of the blocks that the contract has; 'z': blocks that the callee may look at; they are never written again (L false), or the caller's again (L true). -/
theorem call_runs3 {M : Seat} {f : Nat} {us : List V} {H : Hp} {n : Nat} {K : V → Hp → Prop} {us0 : List V} {H0 : Hp} {k : Nat} {Q : V → Hp → Nat → Prop} (hr : Runs M f us0 H0 k Q) (L : Prop) [Decidable L] (m m0 z : List Nat) (h0 : ∀ id i, hhas H0 id = true → m[id]? = some i → i ∈ m0) (h0m : ∀ i ∈ m0, i ∈ m)
    (hm : m.Nodup) (hz : ∀ i ∈ z, i ∉ m) (hk : m.length = k) (hall0 : ∀ i ∈ m0, hhas H i = true) (hall : ∀ i ∈ m, hhas H i = true ∨ inArgs us i = true ∨ inHp m0 H i = true) (hus : SimA H m z us0 us) (hH : SimH H m z H0)
    (hK : ∀ v H' k', Q v H' k' → (k' ≤ k + 16 ∧ (L → NoIm v ∧ NoImH H')) ∧ K (v.ren (nums m n k')) (renH (nums m n k') H' ++ hrest H (if L then m0 else m0 ++ z))) : CallK M f us H n K := by
  intro c e vs hI hD hcn ⟨hvs, hargs⟩
  subst hk
  have hp := Pull.of hI m z
  have hmD : ∀ i ∈ m, e.D i := fun i hi => (hall i hi).elim (fun h => (hI.blk i h).1) (fun h => h.elim (inArgs_D ⟨hvs, hargs⟩) (inHp_D hI))
  have hI2 : Inv M ⟨e.sim H m z, fun b => ∃ id, hhas H0 id = true ∧ (e.sim H m z).ρ id = b, m.length⟩ (e.sim H m z) H0 := hI.sim2 hm hz hH (.inr ⟨rfl, hmD⟩)
  have hmn : ∀ i ∈ m, i < n := fun i hi => Nat.lt_of_not_le (fun h => hD i h (hmD i hi))
  refine (hr (e.sim H m z) vs hI2 ?_ ⟨hvs.trans (SimA_len hus).symm, fun t => RV_sim hp (SimA_get hus t) (hargs t)⟩).mono ?_
  · rintro id hid ⟨i, h1, _⟩
    have := (List.getElem?_eq_some_iff.1 h1).1
    omega
  rintro en w' ⟨x, v, e2, H', k', rfl, rfl, hI', hv, hD', hkk, hQ⟩
  obtain ⟨⟨hk16, hL⟩, hKK⟩ := hK v H' k' hQ
  -- the callee's env, the caller's
  have hO : ∀ b, (∃ id, hhas H0 id = true ∧ (e.sim H m z).ρ id = b) → ∃ i ∈ m0, e.ρ i = b := by
    rintro b ⟨id, h1, h2⟩
    obtain ⟨i, k1, k2, _⟩ := SimH_get hH id h1
    exact ⟨i, h0 id i h1 k1, by simpa [Env.sim, k1] using h2⟩
  have hsame : ∀ b, b < e.w.heap.size → (∀ i ∈ m0, e.ρ i ≠ b) → e2.w.heap[b]? = e.w.heap[b]? := fun b hb hn =>
    hI'.ev.frame b hb (fun ho => by obtain ⟨i, h1, h2⟩ := hO b ho; exact hn i h1 h2)
  have hsize : e.w.heap.size ≤ e2.w.heap.size := hI'.ev.size
  let e' : Env := { ρ := fun i => if n ≤ i then e2.ρ (m.length + (i - n)) else e.ρ i
                    D := fun i => e.D i ∨ (n ≤ i ∧ e2.D (m.length + (i - n)))
                    im := fun b => if L then e.im b else e2.im b
                    w := e2.w, φ := e2.φ, τ := e2.τ }
  have hφ : e2.φ = e.φ := hI'.φ.trans hI.φ.symm
  have hτ : e2.τ = e.τ := hI'.τ.trans hI.τ.symm
  have him2 : ∀ b, e.im b → e2.im b := fun b hb => hI'.keep b (.inl hb)
  have him' : ∀ b, e.im b → e'.im b := fun b hb => by
    show if L then _ else _
    split
    · exact hb
    · exact him2 b hb
  have him2' : ∀ b, e'.im b → e2.im b := fun b hb => by
    have hb : if L then e.im b else e2.im b := hb
    split at hb
    · exact him2 b hb
    · exact hb
  have hρold : ∀ i, e.D i → e'.ρ i = e.ρ i := fun i hi => by
    show (if n ≤ i then _ else _) = _
    rw [if_neg (fun h => hD i h hi)]
  have hle : e.le e' := by
    refine ⟨fun i hi => ⟨.inl hi, hρold i hi⟩, fun b hb => ⟨him' b hb, fun cc el fz hc => ⟨el, fz, ?_⟩⟩, hI'.ev.bs, hφ, hτ⟩
    show e2.w.heap[b]? = _
    rw [hsame b (hI.imlt b hb) (fun i hi he => (hI.blk i (hall0 i hi)).2.2.1 (he ▸ hb))]
    exact hc
  have hpush : Push L (nums m n k') e2 e' := by
    refine ⟨fun j hj => ?_, fun hnl b hb => ?_, rfl, rfl, rfl⟩
    · have hjk : j < k' := Nat.lt_of_not_le (fun h => hD' j h hj)
      have hg := nums_get (n := n) hkk j hjk
      by_cases hjm : j < m.length
      · rw [dif_pos hjm] at hg
        have hmj := hmD m[j] (List.getElem_mem hjm)
        refine ⟨m[j], hg, .inl hmj, ?_⟩
        rw [hρold _ hmj]
        have := (hI'.low j hjm).2
        rw [this]
        simp [Env.sim, List.getElem?_eq_getElem hjm]
      · rw [dif_neg hjm] at hg
        have e1 : m.length + (n + (j - m.length) - n) = j := by omega
        refine ⟨_, hg, .inr ⟨by omega, by rw [e1]; exact hj⟩, ?_⟩
        show (if _ then _ else _) = _
        rw [if_pos (by omega), e1]
    · show if L then _ else _
      rw [if_neg hnl]; exact hb
  have hnd : (nums m n k').Nodup := nums_nodup hm hmn
  have hnew : ∀ b, (∃ id, hhas H0 id = true ∧ (e.sim H m z).ρ id = b) ∨ (e.sim H m z).w.heap.size ≤ b → c.O b ∨ c.e0.w.heap.size ≤ b := by
    rintro b (h | h)
    · obtain ⟨i, h1, rfl⟩ := hO b h
      exact (hI.blk i (hall0 i h1)).2.2.2
    · have h : e.w.heap.size ≤ b := h
      have := hI.ev.size
      exact .inr (by omega)
  have hold : ∀ id, hhas (hrest H (if L then m0 else m0 ++ z)) id = true → hhas H id = true ∧ id ∉ m0 ∧ (¬ L → id ∉ z) ∧ hget (hrest H (if L then m0 else m0 ++ z)) id = hget H id := by
    intro id hid
    rw [hhas_hrest] at hid
    simp only [Bool.and_eq_true, Bool.not_eq_true', List.contains_eq_mem, decide_eq_false_iff_not] at hid
    refine ⟨hid.1, ?_, ?_, hget_hrest _ _ _ hid.2⟩
    · intro h'; apply hid.2; split
      · exact h'
      · exact List.mem_append_left _ h'
    · intro hnl h'; apply hid.2; rw [if_neg hnl]; exact List.mem_append_right _ h'
  have hrenb : ∀ id, hhas (renH (nums m n k') H') id = true → ∃ j, hhas H' j = true ∧ e'.D id ∧ e'.ρ id = e2.ρ j ∧ (nums m n k')[j]? = some id ∧ hget (renH (nums m n k') H') id = (hget H' j).ren (nums m n k') := by
    intro id hid
    obtain ⟨j, h1, h2, h3⟩ := renH_get hnd hid
    obtain ⟨i, k1, k2, k3⟩ := hpush.D j (hI'.blk j h2).1
    rw [h1] at k1
    simp only [Option.some.injEq] at k1
    subst k1
    exact ⟨j, h2, k2, k3, h1, h3⟩
  refine ⟨x, v.ren (nums m n k'), e', renH (nums m n k') H' ++ hrest H (if L then m0 else m0 ++ z), rfl, rfl, hle, ?_, RV_push hpush (fun hl => (hL hl).1) hv, ?_, hKK⟩
  · have hblk : ∀ id, hhas (renH (nums m n k') H' ++ hrest H (if L then m0 else m0 ++ z)) id = true → (hhas (renH (nums m n k') H') id = true ∧ hget (renH (nums m n k') H' ++ hrest H (if L then m0 else m0 ++ z)) id = hget (renH (nums m n k') H') id) ∨ (hhas (hrest H (if L then m0 else m0 ++ z)) id = true ∧ hget (renH (nums m n k') H' ++ hrest H (if L then m0 else m0 ++ z)) id = hget (hrest H (if L then m0 else m0 ++ z)) id) := by
      intro id hid
      rw [hhas_append] at hid
      cases hr' : hhas (renH (nums m n k') H') id with
      | true => exact .inl ⟨rfl, hget_append_l hr'⟩
      | false => rw [hr', Bool.false_or] at hid; exact .inr ⟨hid, hget_append_r hr'⟩
    have hsep : ∀ i j, hhas H i = true → i ∉ m0 → hhas H' j = true → e.ρ i ≠ e2.ρ j := by
      intro i j hi him hj he
      rcases (hI'.blk j hj).2.2.2 with h | h
      · obtain ⟨i', h1, h2⟩ := hO _ h
        exact him (by rw [hI.inj i i' hi (hall0 i' h1) (he.trans h2.symm)]; exact h1)
      · have h : e.w.heap.size ≤ e2.ρ j := h
        have := hI.rb i (hI.blk i hi).1
        omega
    refine ⟨?_, ?_, ?_, ?_, ?_, ?_, fun b hb => him' b (hI.keep b hb), ?_, hI.gs.mono hle, hI'.φ, hI'.τ⟩
    · exact hI.ev.trans hI'.ev (fun b hb => by
        obtain ⟨i, h1, rfl⟩ := hO b hb
        rcases (hI.blk i (hall0 i h1)).2.2.2 with h | h
        · exact .inl h
        · exact .inr h)
    · intro id hid
      rcases hblk id hid with ⟨h1, h2⟩ | ⟨h1, h2⟩
      · obtain ⟨j, k1, k2, k3, k4, k5⟩ := hrenb id h1
        obtain ⟨q1, q2, q3, q4⟩ := hI'.blk j k1
        rw [h2, k5, k3]
        exact ⟨k2, BlkOK_push hpush k3 (fun hl => (hL hl).2 j k1) q2, fun h => q3 (him2' _ h), hnew _ q4⟩
      · obtain ⟨k1, k2, k3, k4⟩ := hold id h1
        obtain ⟨q1, q2, q3, q4⟩ := hI.blk id k1
        have hne : ∀ i ∈ m0, e.ρ i ≠ e.ρ id := fun i hi he => k2 (by rw [← hI.inj i id (hall0 i hi) k1 he]; exact hi)
        rw [h2, k4, hρold id q1]
        refine ⟨.inl q1, BlkOK_mono hle q1 (hsame _ (hI.rb id q1) hne) q2, ?_, q4⟩
        intro h
        have h : if L then e.im (e.ρ id) else e2.im (e.ρ id) := h
        split at h
        · exact q3 h
        · rename_i hnl
          rcases hI'.imo _ h with h | h | h
          · rcases h with h | ⟨i, hf, he⟩
            · exact q3 h
            · obtain ⟨f1, f2, _⟩ := frz_of hf
              rw [hI.inj id i k1 f2 he] at k3
              exact k3 hnl f1
          · obtain ⟨i, h1, h2⟩ := hO _ h
            exact hne i h1 h2
          · have h : e.w.heap.size ≤ e.ρ id := h
            have := hI.rb id q1
            omega
    · intro i j hi hj hij
      rcases hblk i hi with ⟨h1, _⟩ | ⟨h1, _⟩ <;> rcases hblk j hj with ⟨h2, _⟩ | ⟨h2, _⟩
      · obtain ⟨a, a1, _, a3, a4, _⟩ := hrenb i h1
        obtain ⟨b, b1, _, b3, b4, _⟩ := hrenb j h2
        rw [a3, b3] at hij
        have := hI'.inj a b a1 b1 hij
        subst this
        rw [a4] at b4
        simpa using b4
      · obtain ⟨a, a1, _, a3, _⟩ := hrenb i h1
        obtain ⟨b1, b2, _⟩ := hold j h2
        rw [a3, hρold j (hI.blk j b1).1] at hij
        exact absurd hij.symm (hsep j a b1 b2 a1)
      · obtain ⟨a, a1, _, a3, _⟩ := hrenb j h2
        obtain ⟨b1, b2, _⟩ := hold i h1
        rw [a3, hρold i (hI.blk i b1).1] at hij
        exact absurd hij (hsep i a b1 b2 a1)
      · obtain ⟨b1, _⟩ := hold i h1
        obtain ⟨b2, _⟩ := hold j h2
        rw [hρold i (hI.blk i b1).1, hρold j (hI.blk j b2).1] at hij
        exact hI.inj i j b1 b2 hij
    · intro b hb
      have hb : if L then e.im b else e2.im b := hb
      split at hb
      · exact hI.imo b hb
      · rcases hI'.imo b hb with h | h | h
        · rcases h with h | ⟨i, hf, rfl⟩
          · exact hI.imo b h
          · exact .inr (hI.blk i (frz_of hf).2.1).2.2.2
        · exact .inr (hnew b (.inl h))
        · exact .inr (hnew b (.inr h))
    · intro b hb
      exact hI'.imb b (him2' b hb)
    · intro id hid
      rcases hid with hid | ⟨h1, h2⟩
      · rw [hρold id hid]
        have := hI.rb id hid
        show e.ρ id < e2.w.heap.size
        omega
      · show (if n ≤ id then _ else _) < _
        rw [if_pos h1]
        exact hI'.rb _ h2
    · intro id hid
      obtain ⟨h1, h2⟩ := hI.low id hid
      exact ⟨.inl h1, (hρold id h1).trans h2⟩
  · rintro id (h | ⟨h1, h2⟩)
    · exact .inl h
    · refine .inr ⟨h1, ?_⟩
      have := Nat.lt_of_not_le (fun h => hD' _ h h2)
      omega
theorem call_runs2 {M : Seat} {f : Nat} {us : List V} {H : Hp} {n : Nat} {K : V → Hp → Prop} {us0 : List V} {H0 : Hp} {k : Nat} {Q : V → Hp → Nat → Prop} (hr : Runs M f us0 H0 k Q) (L : Prop) [Decidable L] (m m0 z : List Nat) (h0 : ∀ id i, hhas H0 id = true → m[id]? = some i → i ∈ m0) (h0m : ∀ i ∈ m0, i ∈ m)
    (hm : m.Nodup) (hz : ∀ i ∈ z, i ∉ m) (hk : m.length = k) (hall0 : ∀ i ∈ m0, hhas H i = true) (hall : ∀ i ∈ m, hhas H i = true ∨ inArgs us i = true) (hus : SimA H m z us0 us) (hH : SimH H m z H0)
    (hK : ∀ v H' k', Q v H' k' → (k' ≤ k + 16 ∧ (L → NoIm v ∧ NoImH H')) ∧ K (v.ren (nums m n k')) (renH (nums m n k') H' ++ hrest H (if L then m0 else m0 ++ z))) : CallK M f us H n K :=
  call_runs3 hr L m m0 z h0 h0m hm hz hk hall0 (fun i hi => (hall i hi).imp_right .inl) hus hH hK
end Mv
namespace Mv
open Go
set_option linter.defProp false

def ids : Hp → List Nat
  | [] => []
  | (i, _) :: r => i :: ids r
def idsx : Hp → List Nat → List Nat
  | [], _ => []
  | (i, _) :: r, m => if m.contains i then idsx r m else i :: idsx r m
theorem idsx_not (m : List Nat) : ∀ (H : Hp), ∀ i ∈ idsx H m, i ∉ m
  | [], _, h => by cases h
  | (j, _) :: r, i, h => by
    simp only [idsx] at h
    split at h
    · exact idsx_not m r i h
    · rename_i hj
      rcases List.mem_cons.1 h with rfl | h
      · intro hm; exact hj (by simpa [List.contains_iff_mem] using hm)
      · exact idsx_not m r i h
theorem ids_has (j : Nat) : ∀ H : Hp, (ids H).contains j = hhas H j
  | [] => rfl
  | (i, _) :: r => by
    simp only [ids, hhas, List.contains_cons, ids_has j r]
    rw [Bool.beq_comm]
/-- All blocks lent. -/
theorem frzA (H : Hp) (i : Nat) : frz H (ids H) i = (hhas H i && (hget H i).solid) := by
  simp only [frz, ids_has, Bool.and_self]
theorem idsx_has (m : List Nat) (j : Nat) : ∀ H : Hp, (idsx H m).contains j = (hhas H j && !m.contains j)
  | [] => by simp [idsx, hhas]
  | (i, _) :: r => by
    simp only [idsx]
    by_cases h : m.contains i = true
    · rw [if_pos h, idsx_has m j r]
      simp only [hhas]
      by_cases hij : i = j
      · subst hij; rw [h]; simp
      · have : (i == j) = false := by simpa using hij
        rw [this, Bool.false_or]
    · rw [if_neg h]
      simp only [List.contains_cons, idsx_has m j r, hhas]
      by_cases hij : i = j
      · subst hij
        rw [show m.contains i = false by simpa using h]; simp
      · have h1 : (i == j) = false := by simpa using hij
        have h2 : (j == i) = false := by simp; exact fun h => hij h.symm
        rw [h1, h2]; simp
theorem frzX (H : Hp) (m : List Nat) (i : Nat) : frz H (idsx H m) i = ((hhas H i && !m.contains i) && (hget H i).solid) := by
  simp only [frz, idsx_has]
  cases hhas H i <;> simp

def numsF : List Nat → Nat → Nat → List Nat
  | [], _, 0 => []
  | [], n, k + 1 => n :: numsF [] (n + 1) k
  | _ :: _, _, 0 => []
  | a :: m, n, k + 1 => a :: numsF m n k
theorem nums_nil : ∀ (k n : Nat), (List.range k).map (fun i => n + i) = numsF [] n k
  | 0, _ => rfl
  | k + 1, n => by
    rw [List.range_succ_eq_map, List.map_cons, List.map_map, numsF, ← nums_nil k (n + 1)]
    simp only [Nat.add_zero, List.cons.injEq, true_and]
    apply List.map_congr_left
    intro i _
    simp only [Function.comp]; omega
theorem nums_F : ∀ (m : List Nat) (n k : Nat), m.length ≤ k → nums m n k = numsF m n k
  | [], n, k, _ => by simp only [nums, List.length_nil, Nat.sub_zero, List.nil_append]; exact nums_nil k n
  | a :: m, n, 0, h => by simp at h
  | a :: m, n, k + 1, h => by
    rw [numsF, ← nums_F m n k (by simpa using h)]
    simp only [nums, List.length_cons, List.cons_append, Nat.add_sub_add_right]

def NoImL : Hp → Prop
  | [] => True
  | (_, v) :: r => NoIm v ∧ NoImL r
theorem NoImL.H : ∀ {H : Hp}, NoImL H → NoImH H
  | [], _, id, h => by simp [hhas] at h
  | (i, v) :: r, hn, id, h => by
    simp only [NoImL] at hn
    simp only [hget]
    split
    · exact hn.1
    · rename_i hi
      exact NoImL.H hn.2 id (by simpa [hhas, hi] using h)

theorem call_pA {M : Seat} {f : Nat} {us us0 : List V} {H : Hp} {n : Nat} {K : V → Hp → Prop} {v : V} (hr : Runs M f us0 [] 0 (fun r H' k' => r = v ∧ H' = [] ∧ k' = 0)) (hus : SimA H [] (ids H) us0 us) (hv : v.ren (nums [] n 0) = v) (hn : NoIm v) (hK : K v H) : CallK M f us H n K :=
  call_pureL (ids H) hr hus hv hn hK

/-- A call by a contract with an outcome; m: the blocks that are handed over. -/
theorem call_mA {M : Seat} {f : Nat} {us us0 : List V} {H H0 Hn : Hp} {n k kn : Nat} {K : V → Hp → Prop} {v : V} (m : List Nat) (hr : Runs M f us0 H0 k (fun r H' k' => r = v ∧ H' = Hn ∧ k' = kn))
    (hm : (decide m.Nodup && decide (m.length = k) && decide (k ≤ kn) && decide (kn ≤ k + 16)) = true) (hall : (m.all fun i => hhas H i) = true) (hus : SimA H m (idsx H m) us0 us) (hH : SimH H m (idsx H m) H0) (hv : NoIm v) (hn : NoImL Hn)
    (hK : K (v.ren (numsF m n kn)) (renH (numsF m n kn) Hn ++ hrest H m)) : CallK M f us H n K := by
  simp only [Bool.and_eq_true, decide_eq_true_eq] at hm
  obtain ⟨⟨⟨h1, h2⟩, h3⟩, h4⟩ := hm
  refine call_runs hr True m (idsx H m) h1 (idsx_not m H) h2 (by simpa using hall) hus hH ?_
  rintro v' H' k' ⟨rfl, rfl, rfl⟩
  refine ⟨⟨h4, fun _ => ⟨hv, hn.H⟩⟩, ?_⟩
  rw [nums_F m n k' (by omega), if_pos trivial]
  exact hK
theorem call_fA {M : Seat} {f : Nat} {us us0 : List V} {H Hn : Hp} {n kn : Nat} {K : V → Hp → Prop} {v : V} (hr : Runs M f us0 [] 0 (fun r H' k' => r = v ∧ H' = Hn ∧ k' = kn))
    (hk : decide (kn ≤ 16) = true) (hus : SimA H [] (ids H) us0 us) (hv : NoIm v) (hn : NoImL Hn)
    (hK : K (v.ren (numsF [] n kn)) (renH (numsF [] n kn) Hn ++ H)) : CallK M f us H n K := by
  refine call_runs hr True [] (ids H) List.nodup_nil (by simp) rfl (by simp) hus trivial ?_
  rintro v' H' k' ⟨rfl, rfl, rfl⟩
  refine ⟨⟨by have := of_decide_eq_true hk; omega, fun _ => ⟨hv, hn.H⟩⟩, ?_⟩
  rw [nums_F [] n k' (by simp), if_pos trivial]
  exact hK

/-- The same; m0: those of m that the contract has as blocks; the others are only known of. -/
theorem call_mB {M : Seat} {f : Nat} {us us0 : List V} {H H0 Hn : Hp} {n k kn : Nat} {K : V → Hp → Prop} {v : V} (m m0 : List Nat) (hr : Runs M f us0 H0 k (fun r H' k' => r = v ∧ H' = Hn ∧ k' = kn))
    (h0 : ((ids H0).all fun id => match m[id]? with | some i => m0.contains i | none => true) = true) (h0m : (m0.all fun i => m.contains i) = true)
    (hm : (decide m.Nodup && decide (m.length = k) && decide (k ≤ kn) && decide (kn ≤ k + 16)) = true) (hall : (m.all fun i => hhas H i || inArgs us i) = true) (hall0 : (m0.all fun i => hhas H i) = true) (hus : SimA H m (idsx H m) us0 us) (hH : SimH H m (idsx H m) H0) (hv : NoIm v) (hn : NoImL Hn)
    (hK : K (v.ren (numsF m n kn)) (renH (numsF m n kn) Hn ++ hrest H m0)) : CallK M f us H n K := by
  simp only [Bool.and_eq_true, decide_eq_true_eq] at hm
  obtain ⟨⟨⟨h1, h2⟩, h3⟩, h4⟩ := hm
  refine call_runs2 hr True m m0 (idsx H m) (fun id i hid hi => ?_) (fun i hi => ?_) h1 (idsx_not m H) h2 (by simpa using hall0) (by simpa using hall) hus hH ?_
  · rw [List.all_eq_true] at h0
    have hmem : id ∈ ids H0 := by
      have := ids_has id H0
      rw [hid] at this
      simpa [List.contains_iff_mem] using this
    have := h0 id hmem
    rw [hi] at this
    simpa using this
  · rw [List.all_eq_true] at h0m
    simpa using h0m i hi
  · rintro v' H' k' ⟨rfl, rfl, rfl⟩
    refine ⟨⟨h4, fun _ => ⟨hv, hn.H⟩⟩, ?_⟩
    rw [nums_F m n k' (by omega), if_pos trivial]
    exact hK

/-- The same, no block lent: what comes back may hold what is never written. -/
theorem call_mN {M : Seat} {f : Nat} {us us0 : List V} {H H0 Hn : Hp} {n k kn : Nat} {K : V → Hp → Prop} {v : V} (m m0 : List Nat) (hr : Runs M f us0 H0 k (fun r H' k' => r = v ∧ H' = Hn ∧ k' = kn))
    (h0 : ((ids H0).all fun id => match m[id]? with | some i => m0.contains i | none => true) = true) (h0m : (m0.all fun i => m.contains i) = true)
    (hm : (decide m.Nodup && decide (m.length = k) && decide (k ≤ kn) && decide (kn ≤ k + 16)) = true) (hall : (m.all fun i => hhas H i || (inHp m0 H i || inArgs us i)) = true) (hall0 : (m0.all fun i => hhas H i) = true) (hus : SimA H m [] us0 us) (hH : SimH H m [] H0)
    (hK : K (v.ren (numsF m n kn)) (renH (numsF m n kn) Hn ++ hrest H m0)) : CallK M f us H n K := by
  simp only [Bool.and_eq_true, decide_eq_true_eq] at hm
  obtain ⟨⟨⟨h1, h2⟩, h3⟩, h4⟩ := hm
  refine call_runs3 hr False m m0 [] (fun id i hid hi => ?_) (fun i hi => ?_) h1 (by simp) h2 (by simpa using hall0) (fun i hi => by
    have := List.all_eq_true.1 hall i hi
    simp only [Bool.or_eq_true] at this
    exact this.elim .inl (fun h => .inr h.symm)) hus hH ?_
  · rw [List.all_eq_true] at h0
    have hmem : id ∈ ids H0 := by
      have := ids_has id H0
      rw [hid] at this
      simpa [List.contains_iff_mem] using this
    have := h0 id hmem
    rw [hi] at this
    simpa using this
  · rw [List.all_eq_true] at h0m
    simpa using h0m i hi
  · rintro v' H' k' ⟨rfl, rfl, rfl⟩
    refine ⟨⟨h4, fun h => h.elim⟩, ?_⟩
    rw [nums_F m n k' (by omega), if_neg id, List.append_nil]
    exact hK

theorem opd_pA {M : Seat} {f : Nat} {us us0 : List V} {H : Hp} {n : Nat} {C : V → Hp → Prop} {v : V} (hr : Runs M f us0 [] 0 (fun r H' k' => r = v ∧ H' = [] ∧ k' = 0)) (hus : SimA H [] (ids H) us0 us) (hv : v.ren (nums [] n 0) = v) (hn : NoIm v) (hC : C v H) : OpDC M f us H n C :=
  ⟨v, H, call_pA hr hus hv hn ⟨rfl, rfl⟩, hC⟩
theorem opd_mA {M : Seat} {f : Nat} {us us0 : List V} {H H0 Hn : Hp} {n k kn : Nat} {C : V → Hp → Prop} {v : V} (m : List Nat) (hr : Runs M f us0 H0 k (fun r H' k' => r = v ∧ H' = Hn ∧ k' = kn))
    (hm : (decide m.Nodup && decide (m.length = k) && decide (k ≤ kn) && decide (kn ≤ k + 16)) = true) (hall : (m.all fun i => hhas H i) = true) (hus : SimA H m (idsx H m) us0 us) (hH : SimH H m (idsx H m) H0) (hv : NoIm v) (hn : NoImL Hn)
    (hC : C (v.ren (numsF m n kn)) (renH (numsF m n kn) Hn ++ hrest H m)) : OpDC M f us H n C :=
  ⟨_, _, call_mA m hr hm hall hus hH hv hn ⟨rfl, rfl⟩, hC⟩
theorem opd_mN {M : Seat} {f : Nat} {us us0 : List V} {H H0 Hn : Hp} {n k kn : Nat} {C : V → Hp → Prop} {v : V} (m m0 : List Nat) (hr : Runs M f us0 H0 k (fun r H' k' => r = v ∧ H' = Hn ∧ k' = kn))
    (h0 : ((ids H0).all fun id => match m[id]? with | some i => m0.contains i | none => true) = true) (h0m : (m0.all fun i => m.contains i) = true)
    (hm : (decide m.Nodup && decide (m.length = k) && decide (k ≤ kn) && decide (kn ≤ k + 16)) = true) (hall : (m.all fun i => hhas H i || (inHp m0 H i || inArgs us i)) = true) (hall0 : (m0.all fun i => hhas H i) = true) (hus : SimA H m [] us0 us) (hH : SimH H m [] H0)
    (hC : C (v.ren (numsF m n kn)) (renH (numsF m n kn) Hn ++ hrest H m0)) : OpDC M f us H n C :=
  ⟨_, _, call_mN m m0 hr h0 h0m hm hall hall0 hus hH ⟨rfl, rfl⟩, hC⟩
theorem dyn_1 {M : Seat} {f : Nat} {v : V} {us : List V} {H : Hp} {n : Nat} {K : V → Hp → Prop} (hf : FnOK M f) (hv : (v.solid && !v.isAgg) = true) (h : CallK M f (us ++ [v]) H n K) : DynK M (.fn f (.st 1 (.fcons 0 v .fnil))) us H n K := by
  refine ⟨⟨hf, ?_⟩, h⟩
  simpa [V.fhas, V.fget] using hv
theorem opy_1 {M : Seat} {f : Nat} {v : V} {us us0 : List V} {H : Hp} {n : Nat} {C : V → Hp → Prop} {r : V} (hf : FnOK M f) (hv : (v.solid && !v.isAgg) = true) (hr : Runs M f us0 [] 0 (fun r' H' k' => r' = r ∧ H' = [] ∧ k' = 0)) (hus : SimA H [] (ids H) us0 (us ++ [v])) (hv2 : r.ren (nums [] n 0) = r) (hn : NoIm r) (hC : C r H) : OpDY M (.fn f (.st 1 (.fcons 0 v .fnil))) us H n C :=
  ⟨r, H, dyn_1 hf hv (call_pA hr hus hv2 hn ⟨rfl, rfl⟩), hC⟩
/-- One result of several. -/
def tpc (v : V) (i : Nat) (r : V) : V := match v with | .junk => r | v => .fcons i v r
def tpp (v : V) : Prop := match v with | .junk => True | v => v.solid = true
theorem tupVc (A : List V) (H : Hp) (r : RVr) (rs : List RVr) (i : Nat) : tupV A H (r :: rs) i = tpc (resV A H r) i (tupV A H rs (i + 1)) := by
  simp only [tupV, tpc]; split <;> simp_all
theorem tupVn (A : List V) (H : Hp) (i : Nat) : tupV A H [] i = .fnil := rfl
theorem tupPc (A : List V) (H : Hp) (r : RVr) (rs : List RVr) : tupP A H (r :: rs) = (tpp (resV A H r) ∧ tupP A H rs) := by
  simp only [tupP, tpp]; split <;> simp_all
theorem tupPn (A : List V) (H : Hp) : tupP A H [] = True := rfl
theorem tpc_int (k : IntKind) (n : Int) (ix : Nat) (r : V) : tpc (.int k n) ix r = .fcons ix (.int k n) r := rfl
theorem tpp_int (k : IntKind) (n : Int) : tpp (.int k n) = True := by simp [tpp, V.solid]
theorem tpc_bool (b : Bool) (ix : Nat) (r : V) : tpc (.bool b) ix r = .fcons ix (.bool b) r := rfl
theorem tpp_bool (b : Bool) : tpp (.bool b) = True := by simp [tpp, V.solid]
theorem tpc_str (s : ByteArray) (ix : Nat) (r : V) : tpc (.str s) ix r = .fcons ix (.str s) r := rfl
theorem tpp_str (s : ByteArray) : tpp (.str s) = True := by simp [tpp, V.solid]
theorem tpc_nilp  (ix : Nat) (r : V) : tpc (.nilp) ix r = .fcons ix (.nilp) r := rfl
theorem tpp_nilp  : tpp (.nilp) = True := by simp [tpp, V.solid]
theorem tpc_ptr (i : Nat) (p : List Stp) (ix : Nat) (r : V) : tpc (.ptr i p) ix r = .fcons ix (.ptr i p) r := rfl
theorem tpp_ptr (i : Nat) (p : List Stp) : tpp (.ptr i p) = True := by simp [tpp, V.solid]
theorem tpc_nils  (ix : Nat) (r : V) : tpc (.nils) ix r = .fcons ix (.nils) r := rfl
theorem tpp_nils  : tpp (.nils) = True := by simp [tpp, V.solid]
theorem tpc_sl (i : Nat) (p : List Stp) (o n sz : Nat) (ix : Nat) (r : V) : tpc (.sl i p o n sz) ix r = .fcons ix (.sl i p o n sz) r := rfl
theorem tpp_sl (i : Nat) (p : List Stp) (o n sz : Nat) : tpp (.sl i p o n sz) = True := by simp [tpp, V.solid]
theorem tpc_lst (sz n : Nat) (f : Nat → V) (ix : Nat) (r : V) : tpc (.lst sz n f) ix r = .fcons ix (.lst sz n f) r := rfl
theorem tpp_lst (sz n : Nat) (f : Nat → V) : tpp (.lst sz n f) = True := by simp [tpp, V.solid]
theorem tpc_nili  (ix : Nat) (r : V) : tpc (.nili) ix r = .fcons ix (.nili) r := rfl
theorem tpp_nili  : tpp (.nili) = True := by simp [tpp, V.solid]
theorem tpc_ifc (t : Nat) (v : V) (ix : Nat) (r : V) : tpc (.ifc t v) ix r = .fcons ix (.ifc t v) r := rfl
theorem tpp_ifc (t : Nat) (v : V) : tpp (.ifc t v) = True := by simp [tpp, V.solid]
theorem tpc_st (n : Nat) (v : V) (ix : Nat) (r : V) : tpc (.st n v) ix r = .fcons ix (.st n v) r := rfl
theorem tpp_st (n : Nat) (v : V) : tpp (.st n v) = True := by simp [tpp, V.solid]
theorem tpc_ar (sz n : Nat) (f : Nat → V) (ix : Nat) (r : V) : tpc (.ar sz n f) ix r = .fcons ix (.ar sz n f) r := rfl
theorem tpp_ar (sz n : Nat) (f : Nat → V) : tpp (.ar sz n f) = True := by simp [tpp, V.solid]
theorem tpc_imm (v : V) (ix : Nat) (r : V) : tpc (.imm v) ix r = .fcons ix (.imm v) r := rfl
theorem tpp_imm (v : V) : tpp (.imm v) = True := by simp [tpp, V.solid]
theorem tpc_map (i : Nat) (ix : Nat) (r : V) : tpc (.map i) ix r = .fcons ix (.map i) r := rfl
theorem tpp_map (i : Nat) : tpp (.map i) = True := by simp [tpp, V.solid]
theorem tpc_nilm  (ix : Nat) (r : V) : tpc (.nilm) ix r = .fcons ix (.nilm) r := rfl
theorem tpp_nilm  : tpp (.nilm) = True := by simp [tpp, V.solid]
theorem tpc_fn (f : Nat) (c : V) (ix : Nat) (r : V) : tpc (.fn f c) ix r = .fcons ix (.fn f c) r := rfl
theorem tpp_fn (f : Nat) (c : V) : tpp (.fn f c) = True := by simp [tpp, V.solid]
theorem tpc_nilf  (ix : Nat) (r : V) : tpc (.nilf) ix r = .fcons ix (.nilf) r := rfl
theorem tpp_nilf  : tpp (.nilf) = True := by simp [tpp, V.solid]
theorem tpc_W (w : BitVec 64) (ix : Nat) (r : V) : tpc (W w) ix r = .fcons ix (W w) r := rfl
theorem tpp_W (w : BitVec 64) : tpp (W w) = True := by simp [tpp, V.solid, W]
theorem tpc_B (w : BitVec 8) (ix : Nat) (r : V) : tpc (B w) ix r = .fcons ix (B w) r := rfl
theorem tpp_B (w : BitVec 8) : tpp (B w) = True := by simp [tpp, V.solid, B]
theorem tpc_dg (d : Dg) (ix : Nat) (r : V) : tpc (dg d) ix r = .fcons ix (dg d) r := rfl
theorem tpp_dg (d : Dg) : tpp (dg d) = True := by simp [tpp, V.solid, dg]
def LTP := (And.intro (And.intro (And.intro (And.intro (And.intro @tupVc @tupVn) (And.intro @tupPc (And.intro @tupPn @tpc_int))) (And.intro (And.intro @tpp_int (And.intro @tpc_bool @tpp_bool)) (And.intro @tpc_str (And.intro @tpp_str @tpc_nilp)))) (And.intro (And.intro (And.intro @tpp_nilp @tpc_ptr) (And.intro @tpp_ptr (And.intro @tpc_nils @tpp_nils))) (And.intro (And.intro @tpc_sl (And.intro @tpp_sl @tpc_lst)) (And.intro @tpp_lst (And.intro @tpc_nili @tpp_nili))))) (And.intro (And.intro (And.intro (And.intro @tpc_ifc @tpp_ifc) (And.intro @tpc_st (And.intro @tpp_st @tpc_ar))) (And.intro (And.intro @tpp_ar (And.intro @tpc_imm @tpp_imm)) (And.intro @tpc_map (And.intro @tpp_map @tpc_nilm)))) (And.intro (And.intro (And.intro @tpp_nilm @tpc_fn) (And.intro @tpp_fn (And.intro @tpc_nilf @tpp_nilf))) (And.intro (And.intro @tpc_W (And.intro @tpp_W @tpc_B)) (And.intro @tpp_B (And.intro @tpc_dg @tpp_dg))))))
theorem NoIm_W (w : BitVec 64) : NoIm (W w) = True := rfl
theorem NoIm_B (w : BitVec 8) : NoIm (B w) = True := rfl
theorem NoIm_dg' (d : Dg) : NoIm (dg d) = True := eq_true (by simp only [NoIm, dg, B, implies_true])
end Mv
namespace Mv
open Go
theorem pow2_n (k : Nat) : (2 : Int) ^ k = ((2 ^ k : Nat) : Int) := by rw [Int.natCast_pow]; rfl
def Dg.put (d : Dg) (k : Nat) (b : BitVec 8) : Dg := Dg.mk' fun j => if j = k then b else d.at j
theorem Dg.at_out (d : Dg) (j : Nat) (hj : ¬ j < 32) : d.at j = 0 := by
  rw [Dg.at, List.getD_eq_getElem?_getD, List.getElem?_eq_none (by rw [d.h]; omega)]; rfl
end Mv
namespace Mv
open Go

theorem stp_mkmap (A : List V) (H : Hp) (n : Nat) (zk zv : Z) : step A H n (.mkmap zk zv) = ⟨True, .map n, (n, .mp 0 (fun _ => zk.v 0) (fun _ => zv.v 0)) :: H⟩ := rfl
theorem stp_mlook (A : List V) (H : Hp) (n : Nat) (s : ES) (z : Z) (ok : Bool) (m k : X) : step A H n (.mlook s z ok m k) = vlook s z ok (m.ev A) (k.ev A) H := rfl
theorem stp_mupd (A : List V) (H : Hp) (n : Nat) (s : ES) (m k x : X) : step A H n (.mupd s m k x) = vupd s (m.ev A) (k.ev A) (x.ev A) H := rfl
def vlookB (s : ES) (z : Z) (ok : Bool) (hh : Bool) (b k : V) (H : Hp) : Out := match b with
  | .mp n ks vs => ⟨hh = true ∧ k.solid = true ∧ veqP true s k k ∧ ∀ i, i < n → veqP true s k (ks i),
        (match mff s k ks 0 n with
        | some i => if ok then .tup (.fcons 0 (vs i) (.fcons 1 (.bool true) .fnil)) else vs i
        | none => if ok then .tup (.fcons 0 (z.v 0) (.fcons 1 (.bool false) .fnil)) else z.v 0), H⟩
  | _ => bad H
def vupdB (s : ES) (hh : Bool) (b k x : V) (id : Nat) (H : Hp) : Out := match b with
  | .mp n ks vs => ⟨hh = true ∧ k.solid = true ∧ x.solid = true ∧ veqP true s k k ∧ ∀ i, i < n → veqP true s k (ks i), .tup .fnil,
        hset H id (.mp (match mff s k ks 0 n with | some _ => n | none => n + 1) (fun j => if j = (mff s k ks 0 n).getD n then k else ks j) (fun j => if j = (mff s k ks 0 n).getD n then x else vs j))⟩
  | _ => bad H
theorem vlook_m (s : ES) (z : Z) (ok : Bool) (id : Nat) (k : V) (H : Hp) : vlook s z ok (.map id) k H = vlookB s z ok (hhas H id) (hget H id) k H := by
  simp only [vlook, vlookB]
  generalize hget H id = b
  cases b <;> rfl
theorem vupd_m (s : ES) (id : Nat) (k x : V) (H : Hp) : vupd s (.map id) k x H = vupdB s (hhas H id) (hget H id) k x id H := by
  simp only [vupd, vupdB]
  generalize hget H id = b
  cases b <;> rfl

section
variable {α : Type}
/-- Where a key stands; what it has; a list with it. -/
def lix (k : Dg) : List (Dg × α) → Option Nat
  | [] => none
  | (a, _) :: r => if k = a then some 0 else (lix k r).map (· + 1)
def lkp (k : Dg) : List (Dg × α) → Option α
  | [] => none
  | (a, b) :: r => if k = a then some b else lkp k r
def updL (k : Dg) (x : α) : List (Dg × α) → List (Dg × α)
  | [] => [(k, x)]
  | (a, b) :: r => if k = a then (k, x) :: r else (a, b) :: updL k x r
def mpV (g : α → V) (d : α) (l : List (Dg × α)) : V := .mp l.length (fun j => dg (l.getD j (Dg.zero, d)).1) (fun j => g (l.getD j (Dg.zero, d)).2)

theorem mff_lix (k : Dg) (ks : Nat → V) (d : α) : ∀ (l : List (Dg × α)) (i : Nat), (∀ j, j < l.length → ks (i + j) = dg (l.getD j (Dg.zero, d)).1) → mff (.ar 32 1 false .int) (dg k) ks i l.length = (lix k l).map (i + ·)
  | [], _, _ => rfl
  | (a, b) :: r, i, h => by
    have h0 := h 0 (by simp)
    simp only [Nat.add_zero, List.getD_cons_zero] at h0
    have ih := mff_lix k ks d r (i + 1) (fun j hj => by
      have := h (j + 1) (by simpa using hj)
      simp only [List.getD_cons_succ] at this
      rw [← this]; congr 1; omega)
    simp only [List.length_cons, mff, h0, veqV_dg, decide_eq_true_eq, lix]
    by_cases hk : k = a
    · simp [hk]
    · simp only [hk, if_false, ih, Option.map_map]
      congr 1
      funext j
      simp only [Function.comp]; omega
theorem mff_mpV (k : Dg) (d : α) (l : List (Dg × α)) : mff (.ar 32 1 false .int) (dg k) (fun j => dg (l.getD j (Dg.zero, d)).1) 0 l.length = lix k l := by
  rw [mff_lix k _ d l 0 (fun j _ => by rw [Nat.zero_add])]
  cases lix k l <;> simp
theorem lix_lkp (k : Dg) (d : α) : ∀ l : List (Dg × α), lkp k l = (lix k l).map (fun i => (l.getD i (Dg.zero, d)).2)
  | [] => rfl
  | (a, b) :: r => by
    simp only [lkp, lix]
    by_cases hk : k = a
    · simp [hk]
    · simp only [hk, if_false, lix_lkp k d r, Option.map_map]
      congr 1
/-- What a look-up hands back. -/
def lkR (z : Z) (ok : Bool) (g : α → V) : Option α → V
  | some x => if ok then .tup (.fcons 0 (g x) (.fcons 1 (.bool true) .fnil)) else g x
  | none => if ok then .tup (.fcons 0 (z.v 0) (.fcons 1 (.bool false) .fnil)) else z.v 0
theorem lkR_st (z : Z) (g : α → V) (x : α) : lkR z true g (some x) = .tup (.fcons 0 (g x) (.fcons 1 (.bool true) .fnil)) := rfl
theorem lkR_nt (z : Z) (g : α → V) : lkR z true g none = .tup (.fcons 0 (z.v 0) (.fcons 1 (.bool false) .fnil)) := rfl
theorem lkR_sf (z : Z) (g : α → V) (x : α) : lkR z false g (some x) = g x := rfl
theorem lkR_nf (z : Z) (g : α → V) : lkR z false g none = z.v 0 := rfl
theorem vlook_mpV (z : Z) (ok hh : Bool) (g : α → V) (d : α) (l : List (Dg × α)) (k : Dg) (H : Hp) : vlookB (.ar 32 1 false .int) z ok hh (mpV g d l) (dg k) H = ⟨hh = true, lkR z ok g (lkp k l), H⟩ := by
  simp only [vlookB, mpV, mff_mpV, lix_lkp k d l, solid_dg, eq_true (veqP_dg true _ _), implies_true, and_true, true_and]
  congr 1
  cases lix k l <;> rfl
theorem updL_len (k : Dg) (x : α) : ∀ l : List (Dg × α), (updL k x l).length = (match lix k l with | some _ => l.length | none => l.length + 1)
  | [] => rfl
  | (a, b) :: r => by
    simp only [updL, lix]
    by_cases hk : k = a
    · simp [hk]
    · simp only [hk, if_false, List.length_cons, updL_len k x r]
      cases lix k r <;> rfl
theorem updL_at (k : Dg) (x : α) (d : Dg × α) : ∀ (l : List (Dg × α)) (j : Nat), (updL k x l).getD j d = if j = (lix k l).getD l.length then (k, x) else l.getD j d
  | [], j => by
    simp only [updL, lix, Option.getD_none, List.length_nil]
    cases j <;> simp
  | (a, b) :: r, j => by
    simp only [updL, lix]
    by_cases hk : k = a
    · simp only [hk, if_true, Option.getD_some]
      cases j <;> simp
    · simp only [hk, if_false]
      cases j with
      | zero =>
        simp only [List.getD_cons_zero, List.length_cons]
        rw [if_neg]
        cases lix k r <;> simp
      | succ j =>
        simp only [List.getD_cons_succ, updL_at k x d r j, List.length_cons]
        have e : ((lix k r).map (· + 1)).getD (r.length + 1) = (lix k r).getD r.length + 1 := by cases lix k r <;> rfl
        rw [e]
        simp only [Nat.add_right_cancel_iff]
theorem vupd_mpV (hh : Bool) (g : α → V) (d : α) (l : List (Dg × α)) (k : Dg) (x : α) (id : Nat) (H : Hp) : vupdB (.ar 32 1 false .int) hh (mpV g d l) (dg k) (g x) id H = ⟨hh = true ∧ (g x).solid = true, .tup .fnil, hset H id (mpV g d (updL k x l))⟩ := by
  have e : mpV g d (updL k x l) = .mp (match lix k l with | some _ => l.length | none => l.length + 1) (fun j => if j = (lix k l).getD l.length then dg k else dg (l.getD j (Dg.zero, d)).1) (fun j => if j = (lix k l).getD l.length then g x else g (l.getD j (Dg.zero, d)).2) := by
    simp only [mpV, updL_len, updL_at]
    congr 1
    · funext j; split <;> rfl
    · funext j; split <;> rfl
  rw [e]
  simp only [vupdB, mpV, mff_mpV, solid_dg, eq_true (veqP_dg true _ _), implies_true, and_true, true_and]
theorem ren_mpV (m : List Nat) (g : α → V) (hg : ∀ x, (g x).ren m = g x) (d : α) (l : List (Dg × α)) : (mpV g d l).ren m = mpV g d l := by
  simp only [mpV, V.ren, ren_dg, hg]
theorem NoIm_mpV (g : α → V) (hg : ∀ x, NoIm (g x)) (d : α) (l : List (Dg × α)) : NoIm (mpV g d l) := by
  simp only [mpV, NoIm, NoIm_dg', true_and]; exact fun i _ => hg _
theorem Sim_mpV (H : Hp) (m z : List Nat) (g : α → V) (hg : ∀ x, Sim H m z (g x) (g x)) (d : α) (l : List (Dg × α)) : Sim H m z (mpV g d l) (mpV g d l) := by
  simp only [mpV, Sim, true_and]; exact fun i _ => ⟨(Sim_dg _ _ _ _ _).mpr rfl, hg _⟩
theorem Sim_mp0 (H : Hp) (m z : List Nat) (g : α → V) (d : α) (ks vs : Nat → V) : Sim H m z (mpV g d []) (.mp 0 ks vs) := by
  simp only [mpV, Sim, List.length_nil, Nat.not_lt_zero, false_implies, implies_true, and_self]
end

/-- 64 bytes. -/
structure Pr where
  l : List (BitVec 8)
  h : l.length = 64
deriving DecidableEq
def Pr.at (d : Pr) (j : Nat) : BitVec 8 := d.l.getD j 0
def Pr.mk' (f : Nat → BitVec 8) : Pr := ⟨(List.range 64).map f, by simp⟩
theorem Pr.at_mk' (f : Nat → BitVec 8) (j : Nat) (hj : j < 64) : (Pr.mk' f).at j = f j := by
  simp [Pr.at, Pr.mk', List.getD, List.getElem?_map, List.getElem?_range hj]
theorem Pr.ext' {a b : Pr} (h : ∀ j, j < 64 → a.at j = b.at j) : a = b := by
  obtain ⟨l, hl⟩ := a
  obtain ⟨m, hm⟩ := b
  have : l = m := by
    apply List.ext_getElem (by omega)
    intro i h1 h2
    have := h i (by omega)
    simpa [Pr.at, List.getD, h1, h2] using this
  subst this; rfl
def Pr.zero : Pr := Pr.mk' fun _ => 0
theorem Pr.at_out (d : Pr) (j : Nat) (hj : ¬ j < 64) : d.at j = 0 := by
  rw [Pr.at, List.getD_eq_getElem?_getD, List.getElem?_eq_none (by rw [d.h]; omega)]; rfl
theorem Pr.at_zero (j : Nat) : Pr.zero.at j = 0 := by
  by_cases hj : j < 64
  · rw [Pr.zero, Pr.at_mk' _ _ hj]
  · exact Pr.at_out _ _ hj
def prV (p : Pr) : V := .ar 1 64 (fun j => B (p.at j))
theorem solid_prV (p : Pr) : (prV p).solid = true := rfl
theorem size_prV (p : Pr) : (prV p).size = 64 := rfl
theorem agg_prV (p : Pr) : (prV p).isAgg = true := rfl
theorem ren_prV (m : List Nat) (p : Pr) : (prV p).ren m = prV p := rfl
theorem NoIm_prV (p : Pr) : NoIm (prV p) = True := eq_true (by simp only [NoIm, prV, B, implies_true])
theorem Sim_prV (H : Hp) (m z : List Nat) (a b : Pr) : Sim H m z (prV a) (prV b) ↔ b = a := by
  simp only [Sim, prV, Sim_B, true_and]
  constructor
  · intro h; exact Pr.ext' (fun j hj => h j hj)
  · rintro rfl _ _; rfl
theorem SimV_prV (H : Hp) (m z : List Nat) (a : Pr) (u : V) : SimV H m z (prV a) u = Sim H m z (prV a) u := rfl
theorem get_prV (k : Nat) (p : Pr) : V.get [.i 1 k] (prV p) = B (p.at k) := rfl
theorem isAr_prV (p : Pr) : isAr 1 64 (prV p) = True := by simp [prV, isAr]
theorem veqP_prV (c : Bool) (a b : Pr) : veqP c (.ar 64 1 false .int) (prV a) (prV b) := by
  simp only [veqP, prV, true_and]
  intro i _
  refine ⟨rfl, rfl, ?_⟩
  simp only [B]
theorem veqV_prV (a b : Pr) : veqV (.ar 64 1 false .int) (prV a) (prV b) = decide (a = b) := by
  have h1 : veqV (.ar 64 1 false .int) (prV a) (prV b) = (List.range 64).all (fun i => decide (a.at i = b.at i)) := by
    simp only [veqV, prV, B, eqB]
  rw [h1, Bool.eq_iff_iff, List.all_eq_true]
  simp only [decide_eq_true_eq, List.mem_range]
  constructor
  · exact fun h => Pr.ext' h
  · rintro rfl _ _; rfl
theorem pr0 : V.ar 1 64 (fun _ => B 0#8) = prV Pr.zero := by
  have h : (fun _ => B 0#8) = fun j => B (Pr.zero.at j) := by funext j; rw [Pr.at_zero]; rfl
  simp only [prV, h]
theorem isAr_dg (d : Dg) : isAr 1 32 (dg d) = True := by simp [dg, isAr]
theorem elemsB_dg (o n sz : Nat) (d : Dg) : elemsB o n sz (dg d) = some (sz, n, fun i => B (d.at (o + i))) := rfl
theorem elemsC_dg (o n : Nat) (d : Dg) : elemsC o n 1 (dg d) = (o + n ≤ 32) := by simp [dg, elemsC]
theorem elemsB_prV (o n sz : Nat) (d : Pr) : elemsB o n sz (prV d) = some (sz, n, fun i => B (d.at (o + i))) := rfl
theorem elemsC_prV (o n : Nat) (d : Pr) : elemsC o n 1 (prV d) = (o + n ≤ 64) := by simp [prV, elemsC]
theorem Sim_mpPr (H : Hp) (m z : List Nat) (d : Pr) (l : List (Dg × Pr)) : Sim H m z (mpV prV d l) (mpV prV d l) = True := eq_true (Sim_mpV H m z prV (fun _ => (Sim_prV _ _ _ _ _).mpr rfl) d l)
theorem NoIm_mpPr (d : Pr) (l : List (Dg × Pr)) : NoIm (mpV prV d l) = True := eq_true (NoIm_mpV prV (fun x => by rw [NoIm_prV]; trivial) d l)
theorem ren_mpPr (m : List Nat) (d : Pr) (l : List (Dg × Pr)) : (mpV prV d l).ren m = mpV prV d l := ren_mpV m prV (fun _ => rfl) d l
theorem tpc_prV (p : Pr) (i : Nat) (r : V) : tpc (prV p) i r = .fcons i (prV p) r := rfl
theorem tpp_prV (p : Pr) : tpp (prV p) = True := by simp [tpp, prV, V.solid]
end Mv
namespace Mv
open Go
set_option linter.defProp false
def LZ := (And.intro (And.intro (And.intro (And.intro (And.intro (And.intro @LG (And.intro @LP @LN)) (And.intro (And.intro @V.ren.eq_1 @V.ren.eq_2) (And.intro @V.ren.eq_3 @V.ren.eq_4))) (And.intro (And.intro (And.intro @V.ren.eq_5 @V.ren.eq_6) (And.intro @V.ren.eq_7 @V.ren.eq_8)) (And.intro (And.intro @V.ren.eq_9 @V.ren.eq_10) (And.intro @V.ren.eq_11 @V.ren.eq_12)))) (And.intro (And.intro (And.intro (And.intro @V.ren.eq_13 @renH.eq_1) (And.intro @renH.eq_2 @hrest.eq_1)) (And.intro (And.intro @hrest.eq_2 @numsF.eq_1) (And.intro @numsF.eq_2 @numsF.eq_3))) (And.intro (And.intro (And.intro @numsF.eq_4 @epk.eq_1) (And.intro @epk.eq_2 @epochs.eq_1)) (And.intro (And.intro @epochs.eq_2 @Mv.hx.eq_1) (And.intro @idsOK.eq_1 @idsOK.eq_2))))) (And.intro (And.intro (And.intro (And.intro @bs.eq_1 (And.intro @wmask.eq_1 @wmask.eq_2)) (And.intro (And.intro @LK.isW.eq_1 @LK.isW.eq_2) (And.intro @LK.isW.eq_3 @LK.isW.eq_4))) (And.intro (And.intro (And.intro @LK.isW.eq_5 (And.intro @LK.isW.eq_6 @LK.isW.eq_7)) (And.intro @LK.isA.eq_1 @LK.isA.eq_2)) (And.intro (And.intro @LK.isA.eq_3 @LK.isA.eq_4) (And.intro @LK.isA.eq_5 @LK.isA.eq_6)))) (And.intro (And.intro (And.intro (And.intro @LK.isA.eq_7 @LK.isP.eq_1) (And.intro @LK.isP.eq_2 @LK.isP.eq_3)) (And.intro (And.intro @LK.isP.eq_4 @LK.isP.eq_5) (And.intro @LK.isP.eq_6 @LK.isP.eq_7))) (And.intro (And.intro (And.intro @LK.isP.eq_8 @LK.isP.eq_9) (And.intro (And.intro @LK.isP.eq_10 @LK.isP.eq_11) @num.eq_1)) (And.intro (And.intro @num.eq_2 @X.ev.eq_1) (And.intro @X.ev.eq_2 @X.ev.eq_3)))))) (And.intro (And.intro (And.intro (And.intro (And.intro @X.ev.eq_4 (And.intro @vbuild.eq_1 @vbuild.eq_2)) (And.intro (And.intro @vbuildOK.eq_1 @vbuildOK.eq_2) (And.intro @vcaps.eq_1 @vcaps.eq_2))) (And.intro (And.intro (And.intro @vcapsOK.eq_1 @vcapsOK.eq_2) (And.intro @hget.eq_1 @hget.eq_2)) (And.intro (And.intro @hset.eq_1 @hset.eq_2) (And.intro @hdel.eq_1 @hdel.eq_2)))) (And.intro (And.intro (And.intro (And.intro @hhas.eq_1 @hhas.eq_2) (And.intro @padd.eq_1 @padd.eq_2)) (And.intro (And.intro @padd.eq_3 @V.ok.eq_1) (And.intro @V.ok.eq_2 @V.ok.eq_3))) (And.intro (And.intro (And.intro @V.ok.eq_4 @V.ok.eq_5) (And.intro @V.get.eq_1 @V.get.eq_2)) (And.intro (And.intro @V.get.eq_3 @V.get.eq_4) (And.intro @V.get.eq_5 @V.set.eq_1))))) (And.intro (And.intro (And.intro (And.intro (And.intro @V.set.eq_2 @V.set.eq_3) (And.intro @V.set.eq_4 @V.fget.eq_1)) (And.intro (And.intro @V.fget.eq_2 @V.fhas.eq_1) (And.intro @V.fhas.eq_2 @V.fset.eq_1))) (And.intro (And.intro (And.intro @V.fset.eq_2 @noR.eq_1) (And.intro @noR.eq_2 @noR.eq_3)) (And.intro (And.intro @Z.v.eq_1 @Z.v.eq_2) (And.intro @Z.v.eq_3 @Z.v.eq_4)))) (And.intro (And.intro (And.intro (And.intro @Z.v.eq_5 @Z.v.eq_6) (And.intro @Z.v.eq_7 @Z.v.eq_8)) (And.intro (And.intro @Z.v.eq_9 @Z.v.eq_10) (And.intro @Z.v.eq_11 @Z.v.eq_12))) (And.intro (And.intro (And.intro @Z.sz.eq_1 @Z.sz.eq_2) (And.intro @Z.sz.eq_3 @Z.sz.eq_4)) (And.intro (And.intro @Z.sz.eq_5 @dropTo.eq_1) (And.intro @dropTo.eq_2 @dropTo.eq_3)))))))
def LY := (And.intro (And.intro (And.intro (And.intro (And.intro (And.intro @Dg.at_zero @Sim_mach) (And.intro @solid_mach @LT)) (And.intro (And.intro @LP @SimL.eq_1) (And.intro @SimL.eq_2 @SimA.eq_1))) (And.intro (And.intro (And.intro @SimA.eq_2 @SimA.eq_3) (And.intro @Sim.eq_1 @Sim.eq_2)) (And.intro (And.intro @Sim.eq_3 @Sim.eq_4) (And.intro @Sim.eq_5 (And.intro @Sim.eq_6 @Sim.eq_7))))) (And.intro (And.intro (And.intro (And.intro @Sim.eq_8 @Sim.eq_9) (And.intro @Sim.eq_10 @Sim.eq_11)) (And.intro (And.intro @Sim.eq_12 @Sim.eq_13) (And.intro @Sim.eq_14 @Sim.eq_15))) (And.intro (And.intro (And.intro @Sim.eq_16 @Sim.eq_17) (And.intro @Sim.eq_18 @Sim.eq_19)) (And.intro (And.intro @Sim.eq_20 @Sim.eq_21) (And.intro @Sim.eq_22 (And.intro @Sim.eq_23 @Sim.eq_24)))))) (And.intro (And.intro (And.intro (And.intro (And.intro @Sim.eq_25 @Sim.eq_26) (And.intro @Sim.eq_27 @Sim.eq_28)) (And.intro (And.intro @Sim.eq_29 @Sim.eq_30) (And.intro @Sim.eq_31 @Sim.eq_32))) (And.intro (And.intro (And.intro @Sim.eq_33 @Sim.eq_34) (And.intro @Sim.eq_35 (And.intro @Sim.eq_36 @Sim.eq_37))) (And.intro (And.intro @SimH.eq_1 @SimH.eq_2) (And.intro @hget.eq_1 (And.intro @hget.eq_2 @hhas.eq_1))))) (And.intro (And.intro (And.intro (And.intro @hhas.eq_2 @V.ok.eq_1) (And.intro @V.ok.eq_2 @V.ok.eq_3)) (And.intro (And.intro @V.ok.eq_4 @V.ok.eq_5) (And.intro @V.get.eq_1 @V.get.eq_2))) (And.intro (And.intro (And.intro @V.get.eq_3 @V.get.eq_4) (And.intro @V.get.eq_5 @V.fget.eq_1)) (And.intro (And.intro @V.fget.eq_2 @V.fhas.eq_1) (And.intro @V.fhas.eq_2 (And.intro @frzA @frzX)))))))
def LX := (And.intro (And.intro (And.intro (And.intro @tup2.eq_1 @tup3.eq_1) (And.intro @laidH.eq_1 (And.intro @refm.eq_1 @mach.eq_1))) (And.intro (And.intro @NoIm.eq_1 (And.intro @NoIm.eq_2 @NoIm.eq_3)) (And.intro @NoIm.eq_4 (And.intro @NoIm.eq_5 @NoIm.eq_6)))) (And.intro (And.intro (And.intro @NoIm.eq_7 @NoIm.eq_8) (And.intro @NoIm.eq_9 (And.intro @NoIm.eq_10 @NoImL.eq_1))) (And.intro (And.intro @NoImL.eq_2 (And.intro @ws.eq_1 @NoIm_W)) (And.intro @NoIm_B (And.intro @NoIm_dg' @and_self)))))
def LV := (And.intro (And.intro (And.intro @res.eq_1 (And.intro @res.eq_2 @resPs.eq_1)) (And.intro @resPs.eq_2 (And.intro @resP.eq_1 @resP.eq_2))) (And.intro (And.intro @resV.eq_1 (And.intro @resV.eq_2 @tup2.eq_1)) (And.intro @tup3.eq_1 (And.intro @dg.eq_1 @LTP))))
def LM := (And.intro (And.intro (And.intro (And.intro @stp_mkmap (And.intro @stp_mlook @stp_mupd)) (And.intro @vlook_m (And.intro @vupd_m @vlook_mpV))) (And.intro (And.intro @vupd_mpV (And.intro @lkR_st @lkR_nt)) (And.intro (And.intro @lkR_sf @lkR_nf) (And.intro @solid_prV @size_prV)))) (And.intro (And.intro (And.intro @agg_prV (And.intro @ren_prV @get_prV)) (And.intro (And.intro @isAr_prV @veqP_prV) (And.intro @veqV_prV @tpc_prV))) (And.intro (And.intro @tpp_prV (And.intro @isAr_dg @elemsB_dg)) (And.intro (And.intro @elemsC_dg @elemsB_prV) (And.intro @elemsC_prV @ren_mpPr)))))
def LMS := (And.intro (And.intro @Sim_prV (And.intro @SimV_prV @Sim_mpPr)) (And.intro @Sim_mp0 (And.intro @NoIm_prV @NoIm_mpPr)))
/- The same with what is always shown in the same way left out. -/
theorem call_pZ {M : Seat} {f : Nat} {us us0 : List V} {H : Hp} {n : Nat} {K : V → Hp → Prop} {v : V} (hr : Runs M f us0 [] 0 (fun r H' k' => r = v ∧ H' = [] ∧ k' = 0)) (hK : K v H) (hus : SimA H [] (ids H) us0 us := by ((try simp only [LY, seval, reduceCtorEq, implies_true]); first | done | exact True.intro | rfl)) (hv : v.ren (nums [] n 0) = v := by first | rfl | (simp only [LN, LP, V.ren, tup2, tup3])) (hn : NoIm v := by simp only [LX, implies_true]) : CallK M f us H n K := call_pA hr hus hv hn hK
theorem call_fZ {M : Seat} {f : Nat} {us us0 : List V} {H Hn : Hp} {n kn : Nat} {K : V → Hp → Prop} {v : V} (hr : Runs M f us0 [] 0 (fun r H' k' => r = v ∧ H' = Hn ∧ k' = kn)) (hK : K (v.ren (numsF [] n kn)) (renH (numsF [] n kn) Hn ++ H)) (hk : decide (kn ≤ 16) = true := by decide) (hus : SimA H [] (ids H) us0 us := by ((try simp only [LY, seval, reduceCtorEq, implies_true]); first | done | exact True.intro | rfl)) (hv : NoIm v := by simp only [LX, implies_true]) (hn : NoImL Hn := by simp only [LX, implies_true]) : CallK M f us H n K := call_fA hr hk hus hv hn hK
theorem call_mZ {M : Seat} {f : Nat} {us us0 : List V} {H H0 Hn : Hp} {n k kn : Nat} {K : V → Hp → Prop} {v : V} (m : List Nat) (hr : Runs M f us0 H0 k (fun r H' k' => r = v ∧ H' = Hn ∧ k' = kn)) (hK : K (v.ren (numsF m n kn)) (renH (numsF m n kn) Hn ++ hrest H m)) (hm : (decide m.Nodup && decide (m.length = k) && decide (k ≤ kn) && decide (kn ≤ k + 16)) = true := by decide) (hall : (m.all fun i => hhas H i) = true := by rfl) (hus : SimA H m (idsx H m) us0 us := by ((try simp only [LY, seval, reduceCtorEq, implies_true]); first | done | exact True.intro | rfl)) (hH : SimH H m (idsx H m) H0 := by ((try simp only [LY, seval, reduceCtorEq, implies_true]); first | done | exact True.intro | rfl)) (hv : NoIm v := by simp only [LX, implies_true]) (hn : NoImL Hn := by simp only [LX, implies_true]) : CallK M f us H n K := call_mA m hr hm hall hus hH hv hn hK
theorem opd_pZ {M : Seat} {f : Nat} {us us0 : List V} {H : Hp} {n : Nat} {K : V → Hp → Prop} {v : V} (hr : Runs M f us0 [] 0 (fun r H' k' => r = v ∧ H' = [] ∧ k' = 0)) (hK : K v H) (hus : SimA H [] (ids H) us0 us := by ((try simp only [LY, seval, reduceCtorEq, implies_true]); first | done | exact True.intro | rfl)) (hv : v.ren (nums [] n 0) = v := by first | rfl | (simp only [LN, LP, V.ren, tup2, tup3])) (hn : NoIm v := by simp only [LX, implies_true]) : OpDC M f us H n K := opd_pA hr hus hv hn hK
theorem opd_mZ {M : Seat} {f : Nat} {us us0 : List V} {H H0 Hn : Hp} {n k kn : Nat} {K : V → Hp → Prop} {v : V} (m : List Nat) (hr : Runs M f us0 H0 k (fun r H' k' => r = v ∧ H' = Hn ∧ k' = kn)) (hK : K (v.ren (numsF m n kn)) (renH (numsF m n kn) Hn ++ hrest H m)) (hm : (decide m.Nodup && decide (m.length = k) && decide (k ≤ kn) && decide (kn ≤ k + 16)) = true := by decide) (hall : (m.all fun i => hhas H i) = true := by rfl) (hus : SimA H m (idsx H m) us0 us := by ((try simp only [LY, seval, reduceCtorEq, implies_true]); first | done | exact True.intro | rfl)) (hH : SimH H m (idsx H m) H0 := by ((try simp only [LY, seval, reduceCtorEq, implies_true]); first | done | exact True.intro | rfl)) (hv : NoIm v := by simp only [LX, implies_true]) (hn : NoImL Hn := by simp only [LX, implies_true]) : OpDC M f us H n K := opd_mA m hr hm hall hus hH hv hn hK
theorem RetS.mkZ {M : Seat} {x : Ctx} {rs : List RVr} {Q : V → Hp → Nat → Prop} {A : List V} {H : Hp} {N : Nat} {k : Nat} (hx : x.k = k) (m : List Nat) {v : V} {H' : Hp} {N' : Nat} (h4 : Q v H' N') (hm : (decide m.Nodup && ([] : List Nat).all (fun i => !m.contains i) && decide (m.length ≤ N') && decide (k ≤ N') && (List.range k).all (fun j => m[j]? == some j)) = true := by decide) (h1 : (res A H rs).1 := by (simp only [LV, LZ, seval, reduceCtorEq, forall_const])) (h2 : SimV H m [] v (res A H rs).2 := by ((try simp only [LV, LZ, seval, reduceCtorEq, forall_const, LY, seval, reduceCtorEq, implies_true]); first | done | exact True.intro | (intros; rfl))) (h3 : SimH H m [] H' := by ((try simp only [LY, seval, reduceCtorEq, implies_true]); first | done | exact True.intro | (intros; rfl))) : RetS M x rs Q A H N := RetS.mk hx m [] v H' N' hm h1 h2 h3 h4
end Mv
