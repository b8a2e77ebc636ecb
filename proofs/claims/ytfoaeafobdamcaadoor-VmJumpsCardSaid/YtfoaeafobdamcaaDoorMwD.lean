/- Calls by contracts: all other blocks lent. -/
import Derived.Test.YtfoaeafobdamcaaDoorMwC
import Derived.Test.YtfoaeafobdamcaaDoorDl
import Derived.Test.YtfoaeafobdamcaaDoorMwQ
set_option linter.unusedSimpArgs false
set_option linter.unusedVariables false
namespace Mv
open Go
set_option linter.defProp false

def ids : Hp → List Nat
  | [] => []
  | (i, _) :: r => i :: ids r
def idsx : Hp → List Nat → List Nat
  | [], _ => []
  | (i, _) :: r, m => if m.contains i then idsx r m else i :: idsx r m
theorem idsx_not (m : List Nat) : ∀ (H : Hp), ∀ i ∈ idsx H m, i ∉ m
  | [], _, h => by cases h
  | (j, _) :: r, i, h => by
    simp only [idsx] at h
    split at h
    · exact idsx_not m r i h
    · rename_i hj
      rcases List.mem_cons.1 h with rfl | h
      · intro hm; exact hj (by simpa [List.contains_iff_mem] using hm)
      · exact idsx_not m r i h
theorem ids_has (j : Nat) : ∀ H : Hp, (ids H).contains j = hhas H j
  | [] => rfl
  | (i, _) :: r => by
    simp only [ids, hhas, List.contains_cons, ids_has j r]
    rw [Bool.beq_comm]
/-- All blocks lent. -/
theorem frzA (H : Hp) (i : Nat) : frz H (ids H) i = (hhas H i && (hget H i).solid) := by
  simp only [frz, ids_has, Bool.and_self]
theorem idsx_has (m : List Nat) (j : Nat) : ∀ H : Hp, (idsx H m).contains j = (hhas H j && !m.contains j)
  | [] => by simp [idsx, hhas]
  | (i, _) :: r => by
    simp only [idsx]
    by_cases h : m.contains i = true
    · rw [if_pos h, idsx_has m j r]
      simp only [hhas]
      by_cases hij : i = j
      · subst hij; rw [h]; simp
      · have : (i == j) = false := by simpa using hij
        rw [this, Bool.false_or]
    · rw [if_neg h]
      simp only [List.contains_cons, idsx_has m j r, hhas]
      by_cases hij : i = j
      · subst hij
        rw [show m.contains i = false by simpa using h]; simp
      · have h1 : (i == j) = false := by simpa using hij
        have h2 : (j == i) = false := by simp; exact fun h => hij h.symm
        rw [h1, h2]; simp
theorem frzX (H : Hp) (m : List Nat) (i : Nat) : frz H (idsx H m) i = ((hhas H i && !m.contains i) && (hget H i).solid) := by
  simp only [frz, idsx_has]
  cases hhas H i <;> simp

def numsF : List Nat → Nat → Nat → List Nat
  | [], _, 0 => []
  | [], n, k + 1 => n :: numsF [] (n + 1) k
  | _ :: _, _, 0 => []
  | a :: m, n, k + 1 => a :: numsF m n k
theorem nums_nil : ∀ (k n : Nat), (List.range k).map (fun i => n + i) = numsF [] n k
  | 0, _ => rfl
  | k + 1, n => by
    rw [List.range_succ_eq_map, List.map_cons, List.map_map, numsF, ← nums_nil k (n + 1)]
    simp only [Nat.add_zero, List.cons.injEq, true_and]
    apply List.map_congr_left
    intro i _
    simp only [Function.comp]; omega
theorem nums_F : ∀ (m : List Nat) (n k : Nat), m.length ≤ k → nums m n k = numsF m n k
  | [], n, k, _ => by simp only [nums, List.length_nil, Nat.sub_zero, List.nil_append]; exact nums_nil k n
  | a :: m, n, 0, h => by simp at h
  | a :: m, n, k + 1, h => by
    rw [numsF, ← nums_F m n k (by simpa using h)]
    simp only [nums, List.length_cons, List.cons_append, Nat.add_sub_add_right]

def NoImL : Hp → Prop
  | [] => True
  | (_, v) :: r => NoIm v ∧ NoImL r
theorem NoImL.H : ∀ {H : Hp}, NoImL H → NoImH H
  | [], _, id, h => by simp [hhas] at h
  | (i, v) :: r, hn, id, h => by
    simp only [NoImL] at hn
    simp only [hget]
    split
    · exact hn.1
    · rename_i hi
      exact NoImL.H hn.2 id (by simpa [hhas, hi] using h)

theorem call_pA {M : Seat} {f : Nat} {us us0 : List V} {H : Hp} {n : Nat} {K : V → Hp → Prop} {v : V} (hr : Runs M f us0 [] 0 (fun r H' k' => r = v ∧ H' = [] ∧ k' = 0)) (hus : SimA H [] (ids H) us0 us) (hv : v.ren (nums [] n 0) = v) (hn : NoIm v) (hK : K v H) : CallK M f us H n K :=
  call_pureL (ids H) hr hus hv hn hK

/-- A call by a contract with an outcome; m: the blocks that are handed over. -/
theorem call_mA {M : Seat} {f : Nat} {us us0 : List V} {H H0 Hn : Hp} {n k kn : Nat} {K : V → Hp → Prop} {v : V} (m : List Nat) (hr : Runs M f us0 H0 k (fun r H' k' => r = v ∧ H' = Hn ∧ k' = kn))
    (hm : (decide m.Nodup && decide (m.length = k) && decide (k ≤ kn) && decide (kn ≤ k + 16)) = true) (hall : (m.all fun i => hhas H i) = true) (hus : SimA H m (idsx H m) us0 us) (hH : SimH H m (idsx H m) H0) (hv : NoIm v) (hn : NoImL Hn)
    (hK : K (v.ren (numsF m n kn)) (renH (numsF m n kn) Hn ++ hrest H m)) : CallK M f us H n K := by
  simp only [Bool.and_eq_true, decide_eq_true_eq] at hm
  obtain ⟨⟨⟨h1, h2⟩, h3⟩, h4⟩ := hm
  refine call_runs hr True m (idsx H m) h1 (idsx_not m H) h2 (by simpa using hall) hus hH ?_
  rintro v' H' k' ⟨rfl, rfl, rfl⟩
  refine ⟨⟨h4, fun _ => ⟨hv, hn.H⟩⟩, ?_⟩
  rw [nums_F m n k' (by omega), if_pos trivial]
  exact hK
theorem call_fA {M : Seat} {f : Nat} {us us0 : List V} {H Hn : Hp} {n kn : Nat} {K : V → Hp → Prop} {v : V} (hr : Runs M f us0 [] 0 (fun r H' k' => r = v ∧ H' = Hn ∧ k' = kn))
    (hk : decide (kn ≤ 16) = true) (hus : SimA H [] (ids H) us0 us) (hv : NoIm v) (hn : NoImL Hn)
    (hK : K (v.ren (numsF [] n kn)) (renH (numsF [] n kn) Hn ++ H)) : CallK M f us H n K := by
  refine call_runs hr True [] (ids H) List.nodup_nil (by simp) rfl (by simp) hus trivial ?_
  rintro v' H' k' ⟨rfl, rfl, rfl⟩
  refine ⟨⟨by have := of_decide_eq_true hk; omega, fun _ => ⟨hv, hn.H⟩⟩, ?_⟩
  rw [nums_F [] n k' (by simp), if_pos trivial]
  exact hK

/-- The same; m0: those of m that the contract has as blocks; the others are only known of. -/
theorem call_mB {M : Seat} {f : Nat} {us us0 : List V} {H H0 Hn : Hp} {n k kn : Nat} {K : V → Hp → Prop} {v : V} (m m0 : List Nat) (hr : Runs M f us0 H0 k (fun r H' k' => r = v ∧ H' = Hn ∧ k' = kn))
    (h0 : ((ids H0).all fun id => match m[id]? with | some i => m0.contains i | none => true) = true) (h0m : (m0.all fun i => m.contains i) = true)
    (hm : (decide m.Nodup && decide (m.length = k) && decide (k ≤ kn) && decide (kn ≤ k + 16)) = true) (hall : (m.all fun i => hhas H i || inArgs us i) = true) (hall0 : (m0.all fun i => hhas H i) = true) (hus : SimA H m (idsx H m) us0 us) (hH : SimH H m (idsx H m) H0) (hv : NoIm v) (hn : NoImL Hn)
    (hK : K (v.ren (numsF m n kn)) (renH (numsF m n kn) Hn ++ hrest H m0)) : CallK M f us H n K := by
  simp only [Bool.and_eq_true, decide_eq_true_eq] at hm
  obtain ⟨⟨⟨h1, h2⟩, h3⟩, h4⟩ := hm
  refine call_runs2 hr True m m0 (idsx H m) (fun id i hid hi => ?_) (fun i hi => ?_) h1 (idsx_not m H) h2 (by simpa using hall0) (by simpa using hall) hus hH ?_
  · rw [List.all_eq_true] at h0
    have hmem : id ∈ ids H0 := by
      have := ids_has id H0
      rw [hid] at this
      simpa [List.contains_iff_mem] using this
    have := h0 id hmem
    rw [hi] at this
    simpa using this
  · rw [List.all_eq_true] at h0m
    simpa using h0m i hi
  · rintro v' H' k' ⟨rfl, rfl, rfl⟩
    refine ⟨⟨h4, fun _ => ⟨hv, hn.H⟩⟩, ?_⟩
    rw [nums_F m n k' (by omega), if_pos trivial]
    exact hK

theorem call_xA {M : Seat} {f : Nat} {us us0 : List V} {H : Hp} {n : Nat} {K : V → Hp → Prop} {Q : V → Hp → Nat → Prop} (hr : Runs M f us0 [] 0 Q) (hus : SimA H [] (ids H) us0 us)
    (hK : ∀ v H' k', Q v H' k' → (k' ≤ 16 ∧ NoIm v ∧ NoImL H') ∧ K (v.ren (numsF [] n k')) (renH (numsF [] n k') H' ++ H)) : CallK M f us H n K := by
  refine call_runs hr True [] (ids H) List.nodup_nil (by simp) rfl (by simp) hus trivial ?_
  intro v' H' k' hq
  obtain ⟨⟨h1, h2, h3⟩, h4⟩ := hK v' H' k' hq
  refine ⟨⟨by simpa using h1, fun _ => ⟨h2, h3.H⟩⟩, ?_⟩
  rw [nums_F [] n k' (by simp), if_pos trivial]
  exact h4
theorem opd_pA {M : Seat} {f : Nat} {us us0 : List V} {H : Hp} {n : Nat} {C : V → Hp → Prop} {v : V} (hr : Runs M f us0 [] 0 (fun r H' k' => r = v ∧ H' = [] ∧ k' = 0)) (hus : SimA H [] (ids H) us0 us) (hv : v.ren (nums [] n 0) = v) (hn : NoIm v) (hC : C v H) : OpDC M f us H n C :=
  ⟨v, H, call_pA hr hus hv hn ⟨rfl, rfl⟩, hC⟩
theorem opd_fA {M : Seat} {f : Nat} {us us0 : List V} {H Hn : Hp} {n kn : Nat} {C : V → Hp → Prop} {v : V} (hr : Runs M f us0 [] 0 (fun r H' k' => r = v ∧ H' = Hn ∧ k' = kn))
    (hk : decide (kn ≤ 16) = true) (hus : SimA H [] (ids H) us0 us) (hv : NoIm v) (hn : NoImL Hn)
    (hC : C (v.ren (numsF [] n kn)) (renH (numsF [] n kn) Hn ++ H)) : OpDC M f us H n C :=
  ⟨_, _, call_fA hr hk hus hv hn ⟨rfl, rfl⟩, hC⟩
theorem opd_mA {M : Seat} {f : Nat} {us us0 : List V} {H H0 Hn : Hp} {n k kn : Nat} {C : V → Hp → Prop} {v : V} (m : List Nat) (hr : Runs M f us0 H0 k (fun r H' k' => r = v ∧ H' = Hn ∧ k' = kn))
    (hm : (decide m.Nodup && decide (m.length = k) && decide (k ≤ kn) && decide (kn ≤ k + 16)) = true) (hall : (m.all fun i => hhas H i) = true) (hus : SimA H m (idsx H m) us0 us) (hH : SimH H m (idsx H m) H0) (hv : NoIm v) (hn : NoImL Hn)
    (hC : C (v.ren (numsF m n kn)) (renH (numsF m n kn) Hn ++ hrest H m)) : OpDC M f us H n C :=
  ⟨_, _, call_mA m hr hm hall hus hH hv hn ⟨rfl, rfl⟩, hC⟩
theorem opd_mB {M : Seat} {f : Nat} {us us0 : List V} {H H0 Hn : Hp} {n k kn : Nat} {C : V → Hp → Prop} {v : V} (m m0 : List Nat) (hr : Runs M f us0 H0 k (fun r H' k' => r = v ∧ H' = Hn ∧ k' = kn))
    (h0 : ((ids H0).all fun id => match m[id]? with | some i => m0.contains i | none => true) = true) (h0m : (m0.all fun i => m.contains i) = true)
    (hm : (decide m.Nodup && decide (m.length = k) && decide (k ≤ kn) && decide (kn ≤ k + 16)) = true) (hall : (m.all fun i => hhas H i || inArgs us i) = true) (hall0 : (m0.all fun i => hhas H i) = true) (hus : SimA H m (idsx H m) us0 us) (hH : SimH H m (idsx H m) H0) (hv : NoIm v) (hn : NoImL Hn)
    (hC : C (v.ren (numsF m n kn)) (renH (numsF m n kn) Hn ++ hrest H m0)) : OpDC M f us H n C :=
  ⟨_, _, call_mB m m0 hr h0 h0m hm hall hall0 hus hH hv hn ⟨rfl, rfl⟩, hC⟩
theorem dyn_1 {M : Seat} {f : Nat} {v : V} {us : List V} {H : Hp} {n : Nat} {K : V → Hp → Prop} (hf : FnOK M f) (hv : (v.solid && !v.isAgg) = true) (h : CallK M f (us ++ [v]) H n K) : DynK M (.fn f (.st 1 (.fcons 0 v .fnil))) us H n K := by
  refine ⟨⟨hf, ?_⟩, h⟩
  simpa [V.fhas, V.fget] using hv
theorem opy_1 {M : Seat} {f : Nat} {v : V} {us us0 : List V} {H : Hp} {n : Nat} {C : V → Hp → Prop} {r : V} (hf : FnOK M f) (hv : (v.solid && !v.isAgg) = true) (hr : Runs M f us0 [] 0 (fun r' H' k' => r' = r ∧ H' = [] ∧ k' = 0)) (hus : SimA H [] (ids H) us0 (us ++ [v])) (hv2 : r.ren (nums [] n 0) = r) (hn : NoIm r) (hC : C r H) : OpDY M (.fn f (.st 1 (.fcons 0 v .fnil))) us H n C :=
  ⟨r, H, dyn_1 hf hv (call_pA hr hus hv2 hn ⟨rfl, rfl⟩), hC⟩
/-- One result of several. -/
def tpc (v : V) (i : Nat) (r : V) : V := match v with | .junk => r | v => .fcons i v r
def tpp (v : V) : Prop := match v with | .junk => True | v => v.solid = true
theorem tupVc (A : List V) (H : Hp) (r : RVr) (rs : List RVr) (i : Nat) : tupV A H (r :: rs) i = tpc (resV A H r) i (tupV A H rs (i + 1)) := by
  simp only [tupV, tpc]; split <;> simp_all
theorem tupVn (A : List V) (H : Hp) (i : Nat) : tupV A H [] i = .fnil := rfl
theorem tupPc (A : List V) (H : Hp) (r : RVr) (rs : List RVr) : tupP A H (r :: rs) = (tpp (resV A H r) ∧ tupP A H rs) := by
  simp only [tupP, tpp]; split <;> simp_all
theorem tupPn (A : List V) (H : Hp) : tupP A H [] = True := rfl
theorem tpc_int (k : IntKind) (n : Int) (ix : Nat) (r : V) : tpc (.int k n) ix r = .fcons ix (.int k n) r := rfl
theorem tpp_int (k : IntKind) (n : Int) : tpp (.int k n) = True := by simp [tpp, V.solid]
theorem tpc_bool (b : Bool) (ix : Nat) (r : V) : tpc (.bool b) ix r = .fcons ix (.bool b) r := rfl
theorem tpp_bool (b : Bool) : tpp (.bool b) = True := by simp [tpp, V.solid]
theorem tpc_str (s : ByteArray) (ix : Nat) (r : V) : tpc (.str s) ix r = .fcons ix (.str s) r := rfl
theorem tpp_str (s : ByteArray) : tpp (.str s) = True := by simp [tpp, V.solid]
theorem tpc_nilp  (ix : Nat) (r : V) : tpc (.nilp) ix r = .fcons ix (.nilp) r := rfl
theorem tpp_nilp  : tpp (.nilp) = True := by simp [tpp, V.solid]
theorem tpc_ptr (i : Nat) (p : List Stp) (ix : Nat) (r : V) : tpc (.ptr i p) ix r = .fcons ix (.ptr i p) r := rfl
theorem tpp_ptr (i : Nat) (p : List Stp) : tpp (.ptr i p) = True := by simp [tpp, V.solid]
theorem tpc_nils  (ix : Nat) (r : V) : tpc (.nils) ix r = .fcons ix (.nils) r := rfl
theorem tpp_nils  : tpp (.nils) = True := by simp [tpp, V.solid]
theorem tpc_sl (i : Nat) (p : List Stp) (o n sz : Nat) (ix : Nat) (r : V) : tpc (.sl i p o n sz) ix r = .fcons ix (.sl i p o n sz) r := rfl
theorem tpp_sl (i : Nat) (p : List Stp) (o n sz : Nat) : tpp (.sl i p o n sz) = True := by simp [tpp, V.solid]
theorem tpc_lst (sz n : Nat) (f : Nat → V) (ix : Nat) (r : V) : tpc (.lst sz n f) ix r = .fcons ix (.lst sz n f) r := rfl
theorem tpp_lst (sz n : Nat) (f : Nat → V) : tpp (.lst sz n f) = True := by simp [tpp, V.solid]
theorem tpc_nili  (ix : Nat) (r : V) : tpc (.nili) ix r = .fcons ix (.nili) r := rfl
theorem tpp_nili  : tpp (.nili) = True := by simp [tpp, V.solid]
theorem tpc_ifc (t : Nat) (v : V) (ix : Nat) (r : V) : tpc (.ifc t v) ix r = .fcons ix (.ifc t v) r := rfl
theorem tpp_ifc (t : Nat) (v : V) : tpp (.ifc t v) = True := by simp [tpp, V.solid]
theorem tpc_st (n : Nat) (v : V) (ix : Nat) (r : V) : tpc (.st n v) ix r = .fcons ix (.st n v) r := rfl
theorem tpp_st (n : Nat) (v : V) : tpp (.st n v) = True := by simp [tpp, V.solid]
theorem tpc_ar (sz n : Nat) (f : Nat → V) (ix : Nat) (r : V) : tpc (.ar sz n f) ix r = .fcons ix (.ar sz n f) r := rfl
theorem tpp_ar (sz n : Nat) (f : Nat → V) : tpp (.ar sz n f) = True := by simp [tpp, V.solid]
theorem tpc_imm (v : V) (ix : Nat) (r : V) : tpc (.imm v) ix r = .fcons ix (.imm v) r := rfl
theorem tpp_imm (v : V) : tpp (.imm v) = True := by simp [tpp, V.solid]
theorem tpc_map (i : Nat) (ix : Nat) (r : V) : tpc (.map i) ix r = .fcons ix (.map i) r := rfl
theorem tpp_map (i : Nat) : tpp (.map i) = True := by simp [tpp, V.solid]
theorem tpc_nilm  (ix : Nat) (r : V) : tpc (.nilm) ix r = .fcons ix (.nilm) r := rfl
theorem tpp_nilm  : tpp (.nilm) = True := by simp [tpp, V.solid]
theorem tpc_fn (f : Nat) (c : V) (ix : Nat) (r : V) : tpc (.fn f c) ix r = .fcons ix (.fn f c) r := rfl
theorem tpp_fn (f : Nat) (c : V) : tpp (.fn f c) = True := by simp [tpp, V.solid]
theorem tpc_nilf  (ix : Nat) (r : V) : tpc (.nilf) ix r = .fcons ix (.nilf) r := rfl
theorem tpp_nilf  : tpp (.nilf) = True := by simp [tpp, V.solid]
theorem tpc_W (w : BitVec 64) (ix : Nat) (r : V) : tpc (W w) ix r = .fcons ix (W w) r := rfl
theorem tpp_W (w : BitVec 64) : tpp (W w) = True := by simp [tpp, V.solid, W]
theorem tpc_B (w : BitVec 8) (ix : Nat) (r : V) : tpc (B w) ix r = .fcons ix (B w) r := rfl
theorem tpp_B (w : BitVec 8) : tpp (B w) = True := by simp [tpp, V.solid, B]
theorem tpc_dg (d : Dg) (ix : Nat) (r : V) : tpc (dg d) ix r = .fcons ix (dg d) r := rfl
theorem tpp_dg (d : Dg) : tpp (dg d) = True := by simp [tpp, V.solid, dg]
def LTP := (And.intro (And.intro (And.intro (And.intro (And.intro @tupVc @tupVn) (And.intro @tupPc (And.intro @tupPn @tpc_int))) (And.intro (And.intro @tpp_int (And.intro @tpc_bool @tpp_bool)) (And.intro @tpc_str (And.intro @tpp_str @tpc_nilp)))) (And.intro (And.intro (And.intro @tpp_nilp @tpc_ptr) (And.intro @tpp_ptr (And.intro @tpc_nils @tpp_nils))) (And.intro (And.intro @tpc_sl (And.intro @tpp_sl @tpc_lst)) (And.intro @tpp_lst (And.intro @tpc_nili @tpp_nili))))) (And.intro (And.intro (And.intro (And.intro @tpc_ifc @tpp_ifc) (And.intro @tpc_st (And.intro @tpp_st @tpc_ar))) (And.intro (And.intro @tpp_ar (And.intro @tpc_imm @tpp_imm)) (And.intro @tpc_map (And.intro @tpp_map @tpc_nilm)))) (And.intro (And.intro (And.intro @tpp_nilm @tpc_fn) (And.intro @tpp_fn (And.intro @tpc_nilf @tpp_nilf))) (And.intro (And.intro @tpc_W (And.intro @tpp_W @tpc_B)) (And.intro @tpp_B (And.intro @tpc_dg @tpp_dg))))))
theorem NoIm_W (w : BitVec 64) : NoIm (W w) = True := rfl
theorem NoIm_B (w : BitVec 8) : NoIm (B w) = True := rfl
theorem NoIm_dg' (d : Dg) : NoIm (dg d) = True := eq_true (by simp only [NoIm, dg, B, implies_true])
end Mv
