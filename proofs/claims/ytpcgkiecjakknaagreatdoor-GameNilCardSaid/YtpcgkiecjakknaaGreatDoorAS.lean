/- A part. -/
import Derived.Test.YtpcgkiecjakknaaGreatDoorAR
set_option linter.all false
namespace Mv
open Go

/- Operations by values. -/
def vpk (c a b : V) (H : Hp) : Out := match c with | .bool t => ⟨True, vpick t a b, H⟩ | _ => bad H
theorem vpk_b (t : Bool) (a b : V) (H : Hp) : vpk (.bool t) a b H = ⟨True, vpick t a b, H⟩ := rfl
theorem stp_pick (A : List V) (H : Hp) (n : Nat) (c a b : X) : step A H n (.pick c a b) = vpk (c.ev A) (a.ev A) (b.ev A) H := rfl
theorem vpick_T (a b : Bool) : vpick true (.bool a) (.bool b) = .bool a := rfl
theorem vpick_F (a b : Bool) : vpick false (.bool a) (.bool b) = .bool b := rfl
theorem vpick_Tt (a : Bool) (v : V) : vpick true (.bool a) (.tup v) = .bool a := rfl
theorem vpick_Ft (b : Bool) (v : V) : vpick false (.tup v) (.bool b) = .bool b := rfl
theorem vpick_bb (t a b : Bool) : vpick t (.bool a) (.bool b) = .bool (bif t then a else b) := rfl
theorem stp_mv (A : List V) (H : Hp) (n : Nat) (x : X) : step A H n (.mv x) = ⟨True, x.ev A, H⟩ := rfl
theorem stp_ari (A : List V) (H : Hp) (n : Nat) (op : BinOp) (x y : X) : step A H n (.ari op x y) = vari op (x.ev A) (y.ev A) H := rfl
theorem stp_un (A : List V) (H : Hp) (n : Nat) (op : UnOp) (x : X) : step A H n (.un op x) = vun op (x.ev A) H := rfl
theorem stp_eq (A : List V) (H : Hp) (n : Nat) (neg c : Bool) (s : ES) (x y : X) : step A H n (.eq neg c s x y) = ⟨veqP c s (x.ev A) (y.ev A), .bool (neg ^^ veqV s (x.ev A) (y.ev A)), H⟩ := rfl
theorem stp_alloc (A : List V) (H : Hp) (n : Nat) (z : Z) : step A H n (.alloc z) = ⟨True, .ptr n [], (n, z.v 0) :: H⟩ := rfl
theorem stp_box (A : List V) (H : Hp) (n : Nat) (x : X) : step A H n (.box x) = ⟨(x.ev A).solid = true, .ptr n [], (n, x.ev A) :: H⟩ := rfl
theorem stp_build (A : List V) (H : Hp) (n : Nat) (z : Z) (ps : List (Stp × Nat × X)) : step A H n (.build z ps) = ⟨vbuildOK (z.v 0) A ps, vbuild (z.v 0) A ps, H⟩ := rfl
theorem stp_bsl (A : List V) (H : Hp) (n sz m : Nat) (z : Z) (ps : List (Stp × Nat × X)) : step A H n (.bsl sz m z ps) = ⟨vbuildOK (.ar sz m (fun _ => z.v 0)) A ps, .sl n [] 0 m sz, (n, vbuild (.ar sz m (fun _ => z.v 0)) A ps) :: H⟩ := rfl

def vload (agg : Bool) (sz : Nat) (x : V) (H : Hp) : Out := match x with
    | .ptr id p => ⟨(hhas H id = true ∧ (hget H id).solid = true ∧ (hget H id).ok p) ∧ ((hget H id).get p).solid = true ∧ ((hget H id).get p).size = sz ∧ ((hget H id).get p).isAgg = agg, (hget H id).get p, H⟩
    | .imm v => ⟨v.solid = true ∧ v.size = sz ∧ v.isAgg = agg, v, H⟩
    | _ => bad H
theorem vload_p (agg : Bool) (sz id : Nat) (p : List Stp) (H : Hp) : vload agg sz (.ptr id p) H = ⟨(hhas H id = true ∧ (hget H id).solid = true ∧ (hget H id).ok p) ∧ ((hget H id).get p).solid = true ∧ ((hget H id).get p).size = sz ∧ ((hget H id).get p).isAgg = agg, (hget H id).get p, H⟩ := rfl
theorem vload_i (agg : Bool) (sz : Nat) (v : V) (H : Hp) : vload agg sz (.imm v) H = ⟨v.solid = true ∧ v.size = sz ∧ v.isAgg = agg, v, H⟩ := rfl
theorem stp_load (A : List V) (H : Hp) (n : Nat) (agg : Bool) (sz : Nat) (x : X) : step A H n (.load agg sz x) = vload agg sz (x.ev A) H := by
  simp only [step]; generalize X.ev A x = u; cases u <;> rfl

def vstore (sz : Nat) (x y : V) (H : Hp) : Out := match x with
    | .ptr id p => ⟨(hhas H id = true ∧ (hget H id).solid = true ∧ (hget H id).ok p ∧ noR p = true) ∧ y.solid = true ∧ y.size = sz ∧ ((hget H id).get p).size = sz, .tup .fnil, hset H id (V.set y p (hget H id))⟩
    | _ => bad H
theorem vstore_p (sz id : Nat) (p : List Stp) (y : V) (H : Hp) : vstore sz (.ptr id p) y H = ⟨(hhas H id = true ∧ (hget H id).solid = true ∧ (hget H id).ok p ∧ noR p = true) ∧ y.solid = true ∧ y.size = sz ∧ ((hget H id).get p).size = sz, .tup .fnil, hset H id (V.set y p (hget H id))⟩ := rfl
theorem stp_store (A : List V) (H : Hp) (n : Nat) (sz : Nat) (x y : X) : step A H n (.store sz x y) = vstore sz (x.ev A) (y.ev A) H := by
  simp only [step]; generalize X.ev A x = u; generalize X.ev A y = v; cases u <;> cases v <;> rfl

def vnilc (x : V) (H : Hp) : Out := match x with
    | .ptr id p => ⟨True, .ptr id p, H⟩
    | .imm v => ⟨True, .imm v, H⟩
    | .fn f c => ⟨f < 1000000, .fn f c, H⟩
    | .ifc t v => ⟨True, .ifc t v, H⟩
    | _ => bad H
theorem vnilc_p (id : Nat) (p : List Stp) (H : Hp) : vnilc (.ptr id p) H = ⟨True, .ptr id p, H⟩ := rfl
theorem vnilc_i (v : V) (H : Hp) : vnilc (.imm v) H = ⟨True, .imm v, H⟩ := rfl
theorem vnilc_f (f : Nat) (c : V) (H : Hp) : vnilc (.fn f c) H = ⟨f < 1000000, .fn f c, H⟩ := rfl
theorem vnilc_c (t : Nat) (v : V) (H : Hp) : vnilc (.ifc t v) H = ⟨True, .ifc t v, H⟩ := rfl
theorem stp_nilc (A : List V) (H : Hp) (n : Nat) (x : X) : step A H n (.nilc x) = vnilc (x.ev A) H := by
  simp only [step]; generalize X.ev A x = u; cases u <;> rfl

def vfadr (off : Nat) (x : V) (H : Hp) : Out := match x with
    | .ptr id p => ⟨True, .ptr id (padd p (.f off)), H⟩
    | .imm v => ⟨v.solid = true ∧ v.ok [.f off], .imm (v.get [.f off]), H⟩
    | _ => bad H
theorem vfadr_p (off id : Nat) (p : List Stp) (H : Hp) : vfadr off (.ptr id p) H = ⟨True, .ptr id (padd p (.f off)), H⟩ := rfl
theorem vfadr_i (off : Nat) (v : V) (H : Hp) : vfadr off (.imm v) H = ⟨v.solid = true ∧ v.ok [.f off], .imm (v.get [.f off]), H⟩ := rfl
theorem stp_fadr (A : List V) (H : Hp) (n off : Nat) (x : X) : step A H n (.fadr off x) = vfadr off (x.ev A) H := by
  simp only [step]; generalize X.ev A x = u; cases u <;> rfl

def viarr (m sz : Nat) (x i : V) (H : Hp) : Out := match x, i with
    | .ptr id p, .int _ a => ⟨0 ≤ a ∧ a < m, .ptr id (padd p (.i sz a.toNat)), H⟩
    | .imm v, .int _ a => ⟨(0 ≤ a ∧ a < m) ∧ v.solid = true ∧ v.ok [.i sz a.toNat], .imm (v.get [.i sz a.toNat]), H⟩
    | _, _ => bad H
theorem viarr_p (m sz id : Nat) (p : List Stp) (k : IntKind) (a : Int) (H : Hp) : viarr m sz (.ptr id p) (.int k a) H = ⟨0 ≤ a ∧ a < m, .ptr id (padd p (.i sz a.toNat)), H⟩ := rfl
theorem viarr_pW (m sz id : Nat) (p : List Stp) (w : BitVec 64) (H : Hp) : viarr m sz (.ptr id p) (W w) H = ⟨w.toNat < m, .ptr id (padd p (.i sz w.toNat)), H⟩ := by
  simp only [viarr, W, Int.toNat_natCast]; congr 1; rw [eq_iff_iff]; omega
theorem viarr_i (m sz : Nat) (v : V) (k : IntKind) (a : Int) (H : Hp) : viarr m sz (.imm v) (.int k a) H = ⟨(0 ≤ a ∧ a < m) ∧ v.solid = true ∧ v.ok [.i sz a.toNat], .imm (v.get [.i sz a.toNat]), H⟩ := rfl
theorem viarr_iW (m sz : Nat) (v : V) (w : BitVec 64) (H : Hp) : viarr m sz (.imm v) (W w) H = ⟨w.toNat < m ∧ v.solid = true ∧ v.ok [.i sz w.toNat], .imm (v.get [.i sz w.toNat]), H⟩ := by
  simp only [viarr, W, Int.toNat_natCast]; congr 2; rw [eq_iff_iff]; omega
theorem stp_iarr (A : List V) (H : Hp) (n m sz : Nat) (x i : X) : step A H n (.iarr m sz x i) = viarr m sz (x.ev A) (i.ev A) H := by
  simp only [step]; generalize X.ev A x = u; generalize X.ev A i = v; cases u <;> cases v <;> rfl

def visl (sz : Nat) (x i : V) (H : Hp) : Out := match x, i with
    | .sl id p o m sz', .int _ a => ⟨(0 ≤ a ∧ a < m) ∧ sz' = sz, .ptr id (padd p (.i sz (o + a.toNat))), H⟩
    | .lst sz' m f, .int _ a => ⟨(0 ≤ a ∧ a < m) ∧ sz' = sz, .imm (f a.toNat), H⟩
    | _, _ => bad H
theorem visl_s (sz id : Nat) (p : List Stp) (o m sz' : Nat) (k : IntKind) (a : Int) (H : Hp) : visl sz (.sl id p o m sz') (.int k a) H = ⟨(0 ≤ a ∧ a < m) ∧ sz' = sz, .ptr id (padd p (.i sz (o + a.toNat))), H⟩ := rfl
theorem visl_sW (sz id : Nat) (p : List Stp) (o m sz' : Nat) (w : BitVec 64) (H : Hp) : visl sz (.sl id p o m sz') (W w) H = ⟨w.toNat < m ∧ sz' = sz, .ptr id (padd p (.i sz (o + w.toNat))), H⟩ := by
  simp only [visl, W, Int.toNat_natCast]; congr 2; rw [eq_iff_iff]; omega
theorem visl_l (sz sz' m : Nat) (f : Nat → V) (k : IntKind) (a : Int) (H : Hp) : visl sz (.lst sz' m f) (.int k a) H = ⟨(0 ≤ a ∧ a < m) ∧ sz' = sz, .imm (f a.toNat), H⟩ := rfl
theorem visl_lW (sz sz' m : Nat) (f : Nat → V) (w : BitVec 64) (H : Hp) : visl sz (.lst sz' m f) (W w) H = ⟨w.toNat < m ∧ sz' = sz, .imm (f w.toNat), H⟩ := by
  simp only [visl, W, Int.toNat_natCast]; congr 2; rw [eq_iff_iff]; omega
theorem stp_isl (A : List V) (H : Hp) (n sz : Nat) (x i : X) : step A H n (.isl sz x i) = visl sz (x.ev A) (i.ev A) H := by
  simp only [step]; generalize X.ev A x = u; generalize X.ev A i = v; cases u <;> cases v <;> rfl

def vidx (m sz : Nat) (agg : Bool) (x i : V) (H : Hp) : Out := match x, i with
    | .ar sz' m' f, .int _ a => ⟨(0 ≤ a ∧ a < m) ∧ sz' = sz ∧ m' = m ∧ (f a.toNat).isAgg = agg, f a.toNat, H⟩
    | _, _ => bad H
theorem vidx_a (m sz : Nat) (agg : Bool) (sz' m' : Nat) (f : Nat → V) (k : IntKind) (a : Int) (H : Hp) : vidx m sz agg (.ar sz' m' f) (.int k a) H = ⟨(0 ≤ a ∧ a < m) ∧ sz' = sz ∧ m' = m ∧ (f a.toNat).isAgg = agg, f a.toNat, H⟩ := rfl
theorem vidx_aW (m sz : Nat) (agg : Bool) (sz' m' : Nat) (f : Nat → V) (w : BitVec 64) (H : Hp) : vidx m sz agg (.ar sz' m' f) (W w) H = ⟨w.toNat < m ∧ sz' = sz ∧ m' = m ∧ (f w.toNat).isAgg = agg, f w.toNat, H⟩ := by
  simp only [vidx, W, Int.toNat_natCast]; congr 2; rw [eq_iff_iff]; omega
theorem stp_idx (A : List V) (H : Hp) (n m sz : Nat) (agg : Bool) (x i : X) : step A H n (.idx m sz agg x i) = vidx m sz agg (x.ev A) (i.ev A) H := by
  simp only [step]; generalize X.ev A x = u; generalize X.ev A i = v; cases u <;> cases v <;> rfl

def vfld (off sz : Nat) (agg : Bool) (x : V) (H : Hp) : Out := match x with
    | .st _ fs => ⟨fs.fhas off = true ∧ (fs.fget off).solid = true ∧ (fs.fget off).size = sz ∧ (fs.fget off).isAgg = agg, fs.fget off, H⟩
    | _ => bad H
theorem vfld_s (off sz : Nat) (agg : Bool) (m : Nat) (fs : V) (H : Hp) : vfld off sz agg (.st m fs) H = ⟨fs.fhas off = true ∧ (fs.fget off).solid = true ∧ (fs.fget off).size = sz ∧ (fs.fget off).isAgg = agg, fs.fget off, H⟩ := rfl
theorem stp_fld (A : List V) (H : Hp) (n off sz : Nat) (agg : Bool) (x : X) : step A H n (.fld off sz agg x) = vfld off sz agg (x.ev A) H := by
  simp only [step]; generalize X.ev A x = u; cases u <;> rfl

/-- A bound of a slice. -/
def bnd (d : Int) : Option V → Int
  | none => d
  | some (.int _ n) => n
  | _ => -1
def bndI : Option V → Prop
  | none => True
  | some (.int _ _) => True
  | _ => False
theorem bnd_n (d : Int) : bnd d none = d := rfl
theorem bnd_i (d : Int) (k : IntKind) (n : Int) : bnd d (some (.int k n)) = n := rfl
theorem bnd_W (d : Int) (w : BitVec 64) : bnd d (some (W w)) = (w.toNat : Int) := rfl
theorem bndI_n : bndI none = True := rfl
theorem bndI_i (k : IntKind) (n : Int) : bndI (some (.int k n)) = True := rfl
theorem bndI_W (w : BitVec 64) : bndI (some (W w)) = True := rfl
theorem vopt_bnd (A : List V) (d : Int) (x : Option X) : vopt A d x = bnd d (x.map (X.ev A)) := by
  cases x with
  | none => rfl
  | some x => simp only [vopt, Option.map, bnd]; split <;> simp_all
theorem optInt_bnd (A : List V) (x : Option X) : optInt A x = bndI (x.map (X.ev A)) := by
  cases x with
  | none => rfl
  | some x => simp only [optInt, isInt, Option.map, bndI]; split <;> simp_all

def vslarr (m sz : Nat) (x : V) (lo hi : Option V) (H : Hp) : Out := match x with
    | .ptr id p => ⟨(bndI lo ∧ bndI hi ∧ 0 ≤ bnd 0 lo ∧ bnd 0 lo ≤ bnd m hi ∧ bnd m hi ≤ m) ∧ hhas H id = true ∧ (hget H id).solid = true ∧ (hget H id).ok p ∧ (match (hget H id).get p with | .ar sz' m' _ => sz' = sz ∧ m' = m | _ => False),
        .sl id p (bnd 0 lo).toNat ((bnd m hi).toNat - (bnd 0 lo).toNat) sz, H⟩
    | .imm v => match v with
      | .ar sz' m' f => ⟨(bndI lo ∧ bndI hi ∧ 0 ≤ bnd 0 lo ∧ bnd 0 lo ≤ bnd m hi ∧ bnd m hi ≤ m) ∧ sz' = sz ∧ m' = m, .lst sz ((bnd m hi).toNat - (bnd 0 lo).toNat) (fun i => f ((bnd 0 lo).toNat + i)), H⟩
      | _ => bad H
    | _ => bad H
/-- Is it a row of these? -/
def isAr (sz m : Nat) : V → Prop
  | .ar sz' m' _ => sz' = sz ∧ m' = m
  | _ => False
theorem isAr_a (sz m sz' m' : Nat) (f : Nat → V) : isAr sz m (.ar sz' m' f) = (sz' = sz ∧ m' = m) := rfl
theorem vslarr_p (m sz id : Nat) (p : List Stp) (lo hi : Option V) (H : Hp) : vslarr m sz (.ptr id p) lo hi H = ⟨(bndI lo ∧ bndI hi ∧ 0 ≤ bnd 0 lo ∧ bnd 0 lo ≤ bnd m hi ∧ bnd m hi ≤ m) ∧ hhas H id = true ∧ (hget H id).solid = true ∧ (hget H id).ok p ∧ isAr sz m ((hget H id).get p),
        .sl id p (bnd 0 lo).toNat ((bnd m hi).toNat - (bnd 0 lo).toNat) sz, H⟩ := by
  simp only [vslarr]; congr 5
theorem vslarr_i (m sz sz' m' : Nat) (f : Nat → V) (lo hi : Option V) (H : Hp) : vslarr m sz (.imm (.ar sz' m' f)) lo hi H = ⟨(bndI lo ∧ bndI hi ∧ 0 ≤ bnd 0 lo ∧ bnd 0 lo ≤ bnd m hi ∧ bnd m hi ≤ m) ∧ sz' = sz ∧ m' = m, .lst sz ((bnd m hi).toNat - (bnd 0 lo).toNat) (fun i => f ((bnd 0 lo).toNat + i)), H⟩ := rfl
theorem stp_slarr (A : List V) (H : Hp) (n m sz : Nat) (x : X) (lo hi : Option X) : step A H n (.slarr m sz x lo hi) = vslarr m sz (x.ev A) (lo.map (X.ev A)) (hi.map (X.ev A)) H := by
  simp only [step, vopt_bnd, optInt_bnd]; generalize X.ev A x = u
  cases u <;> first | rfl | (rename_i v; cases v <;> rfl)

def vslsl (sz : Nat) (x : V) (lo hi : Option V) (H : Hp) : Out := match x with
    | .sl id p o m sz' => ⟨(bndI lo ∧ bndI hi ∧ 0 ≤ bnd 0 lo ∧ bnd 0 lo ≤ bnd m hi ∧ bnd m hi ≤ m) ∧ sz' = sz, .sl id p (o + (bnd 0 lo).toNat) ((bnd m hi).toNat - (bnd 0 lo).toNat) sz, H⟩
    | .lst sz' m f => ⟨(bndI lo ∧ bndI hi ∧ 0 ≤ bnd 0 lo ∧ bnd 0 lo ≤ bnd m hi ∧ bnd m hi ≤ m) ∧ sz' = sz, .lst sz ((bnd m hi).toNat - (bnd 0 lo).toNat) (fun i => f ((bnd 0 lo).toNat + i)), H⟩
    | .nils => ⟨bndI lo ∧ bndI hi ∧ bnd 0 lo = 0 ∧ bnd 0 hi = 0, .nils, H⟩
    | _ => bad H
theorem vslsl_s (sz id : Nat) (p : List Stp) (o m sz' : Nat) (lo hi : Option V) (H : Hp) : vslsl sz (.sl id p o m sz') lo hi H = ⟨(bndI lo ∧ bndI hi ∧ 0 ≤ bnd 0 lo ∧ bnd 0 lo ≤ bnd m hi ∧ bnd m hi ≤ m) ∧ sz' = sz, .sl id p (o + (bnd 0 lo).toNat) ((bnd m hi).toNat - (bnd 0 lo).toNat) sz, H⟩ := rfl
theorem vslsl_l (sz sz' m : Nat) (f : Nat → V) (lo hi : Option V) (H : Hp) : vslsl sz (.lst sz' m f) lo hi H = ⟨(bndI lo ∧ bndI hi ∧ 0 ≤ bnd 0 lo ∧ bnd 0 lo ≤ bnd m hi ∧ bnd m hi ≤ m) ∧ sz' = sz, .lst sz ((bnd m hi).toNat - (bnd 0 lo).toNat) (fun i => f ((bnd 0 lo).toNat + i)), H⟩ := rfl
theorem vslsl_n (sz : Nat) (lo hi : Option V) (H : Hp) : vslsl sz .nils lo hi H = ⟨bndI lo ∧ bndI hi ∧ bnd 0 lo = 0 ∧ bnd 0 hi = 0, .nils, H⟩ := rfl
theorem stp_slsl (A : List V) (H : Hp) (n sz : Nat) (x : X) (lo hi : Option X) : step A H n (.slsl sz x lo hi) = vslsl sz (x.ev A) (lo.map (X.ev A)) (hi.map (X.ev A)) H := by
  simp only [step, vopt_bnd, optInt_bnd]; generalize X.ev A x = u; cases u <;> rfl

def vs2a (m sz : Nat) (x : V) (H : Hp) : Out := match x with
    | .sl id p o l sz' => ⟨(sz' = sz ∧ m ≤ l ∧ 0 < m), .ptr id (padd p (.r sz o m)), H⟩
    | .lst sz' l f => ⟨sz' = sz ∧ m ≤ l ∧ 0 < m, .imm (.ar sz m f), H⟩
    | _ => bad H
theorem vs2a_s (m sz id : Nat) (p : List Stp) (o l sz' : Nat) (H : Hp) : vs2a m sz (.sl id p o l sz') H = ⟨(sz' = sz ∧ m ≤ l ∧ 0 < m), .ptr id (padd p (.r sz o m)), H⟩ := rfl
theorem vs2a_l (m sz sz' l : Nat) (f : Nat → V) (H : Hp) : vs2a m sz (.lst sz' l f) H = ⟨sz' = sz ∧ m ≤ l ∧ 0 < m, .imm (.ar sz m f), H⟩ := rfl
theorem stp_s2a (A : List V) (H : Hp) (n m sz : Nat) (x : X) : step A H n (.s2a m sz x) = vs2a m sz (x.ev A) H := by
  simp only [step]; generalize X.ev A x = u; cases u <;> rfl
theorem stp_mkif (A : List V) (H : Hp) (n t : Nat) (x : X) : step A H n (.mkif t x) = ⟨(x.ev A).solid = true, .ifc t (x.ev A), H⟩ := rfl
def vext (x : V) (i : Nat) (H : Hp) : Out := match x with
    | .tup fs => ⟨fs.fhas i = true, fs.fget i, H⟩
    | _ => bad H
theorem vext_t (fs : V) (i : Nat) (H : Hp) : vext (.tup fs) i H = ⟨fs.fhas i = true, fs.fget i, H⟩ := rfl
theorem stp_ext (A : List V) (H : Hp) (n : Nat) (x : X) (i : Nat) : step A H n (.ext x i) = vext (x.ev A) i H := by
  simp only [step]; generalize X.ev A x = u; cases u <;> rfl

def vlen (k : Nat) (x : V) (H : Hp) : Out := match k, x with
    | 0, .sl _ _ _ m _ => ⟨True, .int .i64 m, H⟩
    | 0, .lst _ m _ => ⟨True, .int .i64 m, H⟩
    | 0, .nils => ⟨True, .int .i64 0, H⟩
    | 1, .str s => ⟨True, .int .i64 s.size, H⟩
    | 2, .nilm => ⟨True, .int .i64 0, H⟩
    | 2, .map id => match hget H id with
      | .mp m _ _ => ⟨hhas H id = true, .int .i64 m, H⟩
      | _ => bad H
    | _, _ => bad H
theorem vlen_s (id : Nat) (p : List Stp) (o m sz : Nat) (H : Hp) : vlen 0 (.sl id p o m sz) H = ⟨True, .int .i64 m, H⟩ := rfl
theorem vlen_l (sz m : Nat) (f : Nat → V) (H : Hp) : vlen 0 (.lst sz m f) H = ⟨True, .int .i64 m, H⟩ := rfl
theorem vlen_n (H : Hp) : vlen 0 .nils H = ⟨True, .int .i64 0, H⟩ := rfl
theorem vlen_str (s : ByteArray) (H : Hp) : vlen 1 (.str s) H = ⟨True, .int .i64 s.size, H⟩ := rfl
theorem vlen_nm (H : Hp) : vlen 2 .nilm H = ⟨True, .int .i64 0, H⟩ := rfl
theorem stp_len (A : List V) (H : Hp) (n k : Nat) (x : X) : step A H n (.len k x) = vlen k (x.ev A) H := by
  simp only [step]; generalize X.ev A x = u; rcases k with _ | _ | _ | k <;> cases u <;> rfl
theorem stp_mkfn (A : List V) (H : Hp) (n f : Nat) (caps : List X) : step A H n (.mkfn f caps) = ⟨vcapsOK A caps, .fn f (.st caps.length (vcaps A caps 0)), H⟩ := rfl

theorem stp_mkmth (A : List V) (H : Hp) (n k : Nat) (x : X) : step A H n (.mkmth k x) = (match x.ev A with | .ifc t v => ⟨True, .fn (1000000 + k) (.st 1 (.fcons 0 (.ifc t v) .fnil)), H⟩ | _ => bad H) := rfl
theorem stp_nilm (A : List V) (H : Hp) (n k : Nat) (ts : List Nat) (x : X) : step A H n (.nilm k ts x) = (match x.ev A with | .fn f (.st m (.fcons j (.ifc t v) r)) => ⟨f = 1000000 + k ∧ t ∈ ts ∧ m = 1 ∧ j = 0, .fn f (.st m (.fcons j (.ifc t v) r)), H⟩ | _ => bad H) := rfl
def vmcl (v : V) (n : Nat) (H : Hp) : Out := match v with
    | .ifc t (.map id) => match hget H id with
      | .mp m ks vs => ⟨hhas H id = true, .ifc t (.map n), (n, .mp m ks vs) :: H⟩
      | _ => bad H
    | _ => bad H
def vmcl' (b : V) (t id n : Nat) (H : Hp) : Out := match b with
    | .mp m ks vs => ⟨hhas H id = true, .ifc t (.map n), (n, .mp m ks vs) :: H⟩
    | _ => bad H
theorem vmcl_i (t id n : Nat) (H : Hp) : vmcl (.ifc t (.map id)) n H = vmcl' (hget H id) t id n H := rfl
theorem vmcl'_m (t id n m : Nat) (ks vs : Nat → V) (H : Hp) : vmcl' (.mp m ks vs) t id n H = ⟨hhas H id = true, .ifc t (.map n), (n, .mp m ks vs) :: H⟩ := rfl
theorem stp_mclone (A : List V) (H : Hp) (n : Nat) (x : X) : step A H n (.mclone x) = vmcl (x.ev A) n H := rfl
theorem stp_tas (A : List V) (H : Hp) (n t : Nat) (x : X) : step A H n (.tas t x) = (match x.ev A with | .ifc t' v => ⟨t' = t, v, H⟩ | _ => bad H) := rfl
def vsidx (x i : V) (H : Hp) : Out := match x, i with
    | .str s, .int _ a => ⟨0 ≤ a ∧ a < s.size, .int .u8 ((s[a.toNat]?).getD 0).toNat, H⟩
    | _, _ => bad H
theorem vsidx_s (s : ByteArray) (k : IntKind) (a : Int) (H : Hp) : vsidx (.str s) (.int k a) H = ⟨0 ≤ a ∧ a < s.size, .int .u8 ((s[a.toNat]?).getD 0).toNat, H⟩ := rfl
theorem stp_sidx (A : List V) (H : Hp) (n : Nat) (x y : X) : step A H n (.sidx x y) = vsidx (x.ev A) (y.ev A) H := by
  simp only [step]; generalize X.ev A x = u; generalize X.ev A y = v; cases u <;> cases v <;> rfl
def vadd64 (x y z : V) (H : Hp) : Out := match x, y, z with
    | .int .u64 a, .int .u64 b, .int .u64 c => ⟨0 ≤ a ∧ 0 ≤ b ∧ 0 ≤ c ∧ c ≤ 1, .tup (.fcons 0 (.int .u64 ((a + b + c) % 18446744073709551616)) (.fcons 1 (.int .u64 ((a + b + c) / 18446744073709551616)) .fnil)), H⟩
    | _, _, _ => bad H
/-- What is carried. -/
def crW (a b : BitVec 64) : BitVec 64 := if a.toNat + b.toNat < 18446744073709551616 then 0#64 else 1#64
theorem vadd64_W (a b : BitVec 64) (H : Hp) : vadd64 (W a) (W b) (.int .u64 0) H = ⟨True, .tup (.fcons 0 (W (a + b)) (.fcons 1 (W (crW a b)) .fnil)), H⟩ := by
  have ha := a.isLt
  have hb := b.isLt
  have e1 : ((a.toNat : Int) + b.toNat + 0) % 18446744073709551616 = ((a + b).toNat : Int) := by
    rw [BitVec.toNat_add]; omega
  have e2 : ((a.toNat : Int) + b.toNat + 0) / 18446744073709551616 = ((crW a b).toNat : Int) := by
    unfold crW; split
    · show _ = ((0 : Nat) : Int); omega
    · show _ = ((1 : Nat) : Int); omega
  show (⟨_, _, _⟩ : Out) = _
  simp only [W, e1, e2]
  congr 1
  exact eq_true ⟨by omega, by omega, by omega, by omega⟩
theorem stp_add64 (A : List V) (H : Hp) (n : Nat) (x y z : X) : step A H n (.add64 x y z) = vadd64 (x.ev A) (y.ev A) (z.ev A) H := by
  simp only [step]; generalize X.ev A x = u; generalize X.ev A y = v; generalize X.ev A z = w; cases u <;> cases v <;> cases w <;> rfl
def vmm (max : Bool) (x y : V) (H : Hp) : Out := match x, y with
    | .int k a, .int k' b => ⟨k = k', .int k (if max then (if a < b then b else a) else (if b < a then b else a)), H⟩
    | _, _ => bad H
theorem vmm_max (k : IntKind) (a b : Int) (H : Hp) : vmm true (.int k a) (.int k b) H = ⟨True, .int k (max a b), H⟩ := by
  have : max a b = if a < b then b else a := by omega
  simp [vmm, this]
theorem vmm_min (k : IntKind) (a b : Int) (H : Hp) : vmm false (.int k a) (.int k b) H = ⟨True, .int k (min a b), H⟩ := by
  have : min a b = if b < a then b else a := by omega
  simp [vmm, this]
theorem stp_mm (A : List V) (H : Hp) (n : Nat) (max : Bool) (x y : X) : step A H n (.mm max x y) = vmm max (x.ev A) (y.ev A) H := by
  simp only [step]; generalize X.ev A x = u; generalize X.ev A y = v; cases u <;> cases v <;> rfl

def vmksl (sz bytes : Nat) (z : Z) (n : Nat) (x y : V) (H : Hp) : Out := match x, y with
    | .int k a, .int k' b => ⟨k = .i64 ∧ k' = .i64 ∧ 0 ≤ a ∧ a ≤ b ∧ b * bytes ≤ 2 ^ 47 ∧ b < 2 ^ 47, .sl n [] 0 a.toNat sz, (n, .ar sz b.toNat (fun _ => z.v 0)) :: H⟩
    | _, _ => bad H
theorem vmksl_i (sz bytes : Nat) (z : Z) (n : Nat) (a b : Int) (H : Hp) : vmksl sz bytes z n (.int .i64 a) (.int .i64 b) H = ⟨0 ≤ a ∧ a ≤ b ∧ b * bytes ≤ 140737488355328 ∧ b < 140737488355328, .sl n [] 0 a.toNat sz, (n, .ar sz b.toNat (fun _ => z.v 0)) :: H⟩ := by
  simp [vmksl]
theorem stp_mksl (A : List V) (H : Hp) (n sz bytes : Nat) (z : Z) (l c : X) : step A H n (.mksl sz bytes z l c) = vmksl sz bytes z n (l.ev A) (c.ev A) H := by
  simp only [step]; generalize X.ev A l = u; generalize X.ev A c = v; cases u <;> cases v <;> rfl

/-- append, copy, by values: the source opened, the target's block handed in. -/
def vapp (sz bytes n : Nat) (x y : V) (H : Hp) : Out := match x, elems H y with
    | .nils, some (sz', m, g) => ⟨sz' = sz ∧ elemsOK H y ∧ 0 < m ∧ m * bytes ≤ 2 ^ 47, .sl n [] 0 m sz, (n, .ar sz m g) :: H⟩
    | .sl id p o l sz'', some (sz', m, g) =>
      match hget H id with
      | .ar _ l' f => ⟨(sz' = sz ∧ sz'' = sz ∧ p = [] ∧ o = 0) ∧ (hhas H id = true ∧ (hget H id).solid = true ∧ (match hget H id with | .ar s _ _ => s = sz | _ => False) ∧ l ≤ l') ∧ elemsOK H y ∧ (l + m) * bytes ≤ 2 ^ 46,
          .sl n [] 0 (l + m) sz, (n, .ar sz (l + m) (fun i => if i < l then f i else g (i - l))) :: hdel H id⟩
      | _ => bad H
    | _, _ => bad H
theorem stp_app (A : List V) (H : Hp) (n sz bytes : Nat) (x y : X) : step A H n (.app sz bytes x y) = vapp sz bytes n (x.ev A) (y.ev A) H := rfl
def vapp' (sz bytes n : Nat) (x : V) (e : Option (Nat × Nat × (Nat → V))) (ok : Prop) (b : V) (H : Hp) : Out := match x, e with
    | .nils, some (sz', m, g) => ⟨sz' = sz ∧ ok ∧ 0 < m ∧ m * bytes ≤ 2 ^ 47, .sl n [] 0 m sz, (n, .ar sz m g) :: H⟩
    | .sl id p o l sz'', some (sz', m, g) =>
      match b with
      | .ar s l' f => ⟨(sz' = sz ∧ sz'' = sz ∧ p = [] ∧ o = 0) ∧ (hhas H id = true ∧ s = sz ∧ l ≤ l') ∧ ok ∧ (l + m) * bytes ≤ 2 ^ 46,
          .sl n [] 0 (l + m) sz, (n, .ar sz (l + m) (fun i => if i < l then f i else g (i - l))) :: hdel H id⟩
      | _ => bad H
    | _, _ => bad H
theorem vapp_n (sz bytes n : Nat) (y : V) (H : Hp) : vapp sz bytes n .nils y H = vapp' sz bytes n .nils (elems H y) (elemsOK H y) .junk H := by
  simp only [vapp, vapp']; cases elems H y <;> rfl
theorem vapp_s (sz bytes n id : Nat) (p : List Stp) (o l sz'' : Nat) (y : V) (H : Hp) : vapp sz bytes n (.sl id p o l sz'') y H = vapp' sz bytes n (.sl id p o l sz'') (elems H y) (elemsOK H y) (hget H id) H := by
  simp only [vapp, vapp']
  cases elems H y with
  | none => rfl
  | some q =>
    obtain ⟨a, b, c⟩ := q
    cases hu : hget H id <;> simp [hu, V.solid, bad]
theorem vapp'_n (sz bytes n sz' m : Nat) (g : Nat → V) (ok : Prop) (b : V) (H : Hp) : vapp' sz bytes n .nils (some (sz', m, g)) ok b H = ⟨sz' = sz ∧ ok ∧ 0 < m ∧ m * bytes ≤ 140737488355328, .sl n [] 0 m sz, (n, .ar sz m g) :: H⟩ := by simp [vapp']
theorem vapp'_s (sz bytes n id : Nat) (p : List Stp) (o l sz'' sz' m s l' : Nat) (g f : Nat → V) (ok : Prop) (H : Hp) : vapp' sz bytes n (.sl id p o l sz'') (some (sz', m, g)) ok (.ar s l' f) H =
  ⟨(sz' = sz ∧ sz'' = sz ∧ p = [] ∧ o = 0) ∧ (hhas H id = true ∧ s = sz ∧ l ≤ l') ∧ ok ∧ (l + m) * bytes ≤ 70368744177664,
          .sl n [] 0 (l + m) sz, (n, .ar sz (l + m) (fun i => if i < l then f i else g (i - l))) :: hdel H id⟩ := by simp [vapp']
theorem elems_l (H : Hp) (sz n : Nat) (f : Nat → V) : elems H (.lst sz n f) = some (sz, n, f) := rfl
def elemsB (o n sz : Nat) (b : V) : Option (Nat × Nat × (Nat → V)) := match b with
  | .ar _ _ f => some (sz, n, fun i => f (o + i))
  | _ => none
theorem elemsB_a (o n sz s m : Nat) (f : Nat → V) : elemsB o n sz (.ar s m f) = some (sz, n, fun i => f (o + i)) := rfl
theorem elems_s (H : Hp) (id : Nat) (p : List Stp) (o n sz : Nat) : elems H (.sl id p o n sz) = elemsB o n sz ((hget H id).get p) := rfl
def elemsC (o n sz : Nat) (b : V) : Prop := match b with
  | .ar sz' m _ => sz' = sz ∧ o + n ≤ m
  | _ => False
theorem elemsC_a (o n sz s m : Nat) (f : Nat → V) : elemsC o n sz (.ar s m f) = (s = sz ∧ o + n ≤ m) := rfl
theorem elemsOK_l (H : Hp) (sz n : Nat) (f : Nat → V) : elemsOK H (.lst sz n f) = True := rfl
theorem elemsOK_s (H : Hp) (id : Nat) (p : List Stp) (o n sz : Nat) : elemsOK H (.sl id p o n sz) = (hhas H id = true ∧ (hget H id).solid = true ∧ (hget H id).ok p ∧ elemsC o n sz ((hget H id).get p)) := by
  simp only [elemsOK]; rfl
theorem elems_n (H : Hp) : elems H .nils = none := rfl

def vcpy (sz : Nat) (x y : V) (H : Hp) : Out := match x, elems H y with
    | .sl id p o l sz'', some (sz', m, g) =>
      match (hget H id).get p with
      | .ar s l' f => ⟨(sz' = sz ∧ sz'' = sz ∧ s = sz) ∧ (hhas H id = true ∧ (hget H id).solid = true ∧ (hget H id).ok p ∧ noR p = true ∧ o + l ≤ l') ∧ elemsOK H y, .int .i64 (min m l : Nat),
          hset H id (V.set (.ar sz l' (fun i => if o ≤ i ∧ i < o + min m l then g (i - o) else f i)) p (hget H id))⟩
      | _ => bad H
    | .sl _ _ _ _ _, none => ⟨match y with | .nils => True | _ => False, .int .i64 0, H⟩
    | _, _ => bad H
theorem stp_copy (A : List V) (H : Hp) (n sz : Nat) (x y : X) : step A H n (.copy sz x y) = vcpy sz (x.ev A) (y.ev A) H := rfl
def vcpy' (sz id : Nat) (p : List Stp) (o l : Nat) (e : Option (Nat × Nat × (Nat → V))) (ok : Prop) (b : V) (H : Hp) : Out := match e, b with
    | some (sz', m, g), .ar s l' f => ⟨(sz' = sz ∧ s = sz) ∧ (hhas H id = true ∧ (hget H id).solid = true ∧ (hget H id).ok p ∧ noR p = true ∧ o + l ≤ l') ∧ ok, .int .i64 (min m l : Nat),
          hset H id (V.set (.ar sz l' (fun i => if o ≤ i ∧ i < o + min m l then g (i - o) else f i)) p (hget H id))⟩
    | none, _ => ⟨False, .int .i64 0, H⟩
    | _, _ => bad H
theorem vcpy_sn (sz id : Nat) (p : List Stp) (o l sz'' : Nat) (H : Hp) : vcpy sz (.sl id p o l sz'') .nils H = ⟨True, .int .i64 0, H⟩ := rfl
theorem vcpy_sl (sz id : Nat) (p : List Stp) (o l n sz' : Nat) (f : Nat → V) (H : Hp) : vcpy sz (.sl id p o l sz) (.lst sz' n f) H = vcpy' sz id p o l (some (sz', n, f)) True ((hget H id).get p) H := by
  simp only [vcpy, vcpy', elems, elemsOK]; cases hu : (hget H id).get p <;> simp [hu, bad]
theorem vcpy_ss (sz id : Nat) (p : List Stp) (o l id' : Nat) (p' : List Stp) (o' n sz' : Nat) (H : Hp) : vcpy sz (.sl id p o l sz) (.sl id' p' o' n sz') H = vcpy' sz id p o l (elemsB o' n sz' ((hget H id').get p')) (hhas H id' = true ∧ (hget H id').solid = true ∧ (hget H id').ok p' ∧ elemsC o' n sz' ((hget H id').get p')) ((hget H id).get p) H := by
  simp only [vcpy, vcpy', elems_s, elemsOK_s]
  cases elemsB o' n sz' ((hget H id').get p') with
  | none => rfl
  | some q =>
    obtain ⟨a, b, c⟩ := q
    cases hu : (hget H id).get p <;> simp [hu, bad]
theorem vcpy'_a (sz id : Nat) (p : List Stp) (o l sz' m : Nat) (g : Nat → V) (ok : Prop) (s l' : Nat) (f : Nat → V) (H : Hp) : vcpy' sz id p o l (some (sz', m, g)) ok (.ar s l' f) H =
  ⟨(sz' = sz ∧ s = sz) ∧ (hhas H id = true ∧ (hget H id).solid = true ∧ (hget H id).ok p ∧ noR p = true ∧ o + l ≤ l') ∧ ok, .int .i64 (min m l : Nat),
          hset H id (V.set (.ar sz l' (fun i => if o ≤ i ∧ i < o + min m l then g (i - o) else f i)) p (hget H id))⟩ := rfl
end Mv
