/- A part. -/
import Derived.Test.YtpcgkiecjakknaaGreatDoorAD
set_option linter.all false
namespace Mv
open Go

/-- The two bounds of a slice expression, with no third. -/
theorem run_bounds {P : Program} (w : World) (isSl : Bool) (len cap : Nat) (lo hi : Option Value) (l h : Int)
    (hlo : match lo with | none => l = 0 | some v => ∃ k, v = .int k l) (hhi : match hi with | none => h = len | some v => ∃ k, v = .int k h)
    (h0 : 0 ≤ l) (h1 : l ≤ h) (h2 : h ≤ cap) : (Instr.sliceBounds isSl len cap lo hi none).run P w = .ok (l.toNat, h.toNat, cap) w := by
  have hb : ∀ (k : IntKind) (i : Int) (y : Nat) (code : BoundsCode), 0 ≤ i → i ≤ y → (Instr.sliceBound (.int k i) y code).run P w = .ok i.toNat w := by
    intro k i y code a b
    simp [Instr.sliceBound, asIntOf, a, b]
  have hle : l ≤ (h.toNat : Int) := by omega
  unfold Instr.sliceBounds
  cases lo with
  | none =>
    simp only at hlo
    subst hlo
    cases hi with
    | none => simp only at hhi; subst hhi; simp
    | some v => obtain ⟨k, rfl⟩ := hhi; simp [hb k h cap _ (by omega) h2]
  | some v0 =>
    obtain ⟨k0, rfl⟩ := hlo
    cases hi with
    | none =>
      simp only at hhi
      subst hhi
      have hb' := hb k0 l len .sliceB h0 h1
      simp [hb']
    | some v =>
      obtain ⟨k, rfl⟩ := hhi
      have hb1 := hb k h cap (if isSl then .sliceAcap else .sliceAlen) (by omega) h2
      have hb2 := hb k0 l h.toNat .sliceB h0 hle
      simp [hb1, hb2]

def chkO (M : Seat) (x : Option Operand) (y : Option X) : Bool :=
  match x, y with
  | none, none => true
  | some x, some y => chkX M x y
  | _, _ => false

def GOKo (M : Seat) (e : Env) : Option X → Prop
  | none => True
  | some x => GOK M e x

theorem opt_val {M : Seat} {e : Env} (hφ : e.φ = M.φ) {A : List V} {a : Act} (hA : FR e A a.tmps) {x : Option Operand} {y : Option X} (h : chkO M x y = true) (hg : GOKo M e y) (ho : optInt A y) (d : Int) :
    match x.map a.eval with | none => vopt A d y = d | some v => ∃ k, v = .int k (vopt A d y) := by
  cases x with
  | none => cases y with
    | none => rfl
    | some y => cases h
  | some x => cases y with
    | none => cases h
    | some y =>
      have hv := chkX_R hφ hA h hg
      simp only [optInt] at ho
      simp only [Option.map_some, vopt]
      generalize y.ev A = v at *
      cases v <;> simp only [isInt] at ho
      exact ⟨_, RV_int hv⟩

theorem good_slarr {M : Seat} {c : Ctx} {e : Env} {H : Hp} {A : List V} {a : Act} (hI : Inv M c e H) (hA : FR e A a.tmps) {n : Nat} {t el : TypeId} {m sz : Nat} {x : Operand} {y : X} {lo hi : Option Operand} {lo' hi' : Option X}
    (ht : M.P.underlying t = some (.array m el)) (hz : tsz M el = some sz) (hx : chkX M x y = true) (hg : GOK M e y) (hlo : chkO M lo lo' = true) (hglo : GOKo M e lo') (hhi : chkO M hi hi' = true) (hghi : GOKo M e hi')
    (hp : (step A H n (.slarr m sz y lo' hi')).pre) :
    Good M c e n (step A H n (.slarr m sz y lo' hi')) (Sem.run M.P (do pure (Next.value (← Instr.sliceAt t (a.eval x) (lo.map a.eval) (hi.map a.eval) none))) e.w) := by
  have hv := chkX_R hI.φ hA hx hg
  have hrun : ∀ (b o : Nat), (optInt A lo' ∧ optInt A hi' ∧ 0 ≤ vopt A 0 lo' ∧ vopt A 0 lo' ≤ vopt A m hi' ∧ vopt A m hi' ≤ m) →
      ∃ ad : Option Addr, ((m - (vopt A 0 lo').toNat = 0) ∨ ad = some ⟨b, o + (vopt A 0 lo').toNat * sz, none⟩) ∧
      (Instr.sliceAt t (.pointer (some ⟨b, o, none⟩)) (lo.map a.eval) (hi.map a.eval) none).run M.P e.w = .ok (.slice ad ((vopt A m hi').toNat - (vopt A 0 lo').toNat) (m - (vopt A 0 lo').toNat)) e.w := by
    rintro b o ⟨i1, i2, i3, i4, i5⟩
    have hb := run_bounds (P := M.P) e.w false m m (lo.map a.eval) (hi.map a.eval) (vopt A 0 lo') (vopt A m hi') (opt_val hI.φ hA hlo hglo i1 0) (opt_val hI.φ hA hhi hghi i2 m) i3 i4 i5
    refine ⟨some (if m = (vopt A 0 lo').toNat then ⟨b, o, none⟩ else ⟨b, o + (vopt A 0 lo').toNat * sz, none⟩), ?_, ?_⟩
    · split
      · left; omega
      · right; rfl
    · simp only [Instr.sliceAt, Sem.run_bind, run_underlying ht, Result.andThen_ok, Instr.sureAddr, Sem.run_pure, hb, run_tsz hz, Addr_add]
  simp only [step] at hp ⊢
  split at hp
  · rename_i id p hy
    rw [hy] at hv
    obtain ⟨hb, h1, h2, h3, h4⟩ := hp
    obtain ⟨hD, hx'⟩ := RV_ptr hv
    rw [hx']
    obtain ⟨ad, hcap, hr⟩ := hrun (e.ρ id) (offOf p) hb
    refine good_pure hI (run_v hr) rfl (RV_mksl hD hcap (by omega) ?_)
    obtain ⟨cells, el', hc, hsz, hR⟩ := hI.cells h1 h2
    have hlen : (cells.toList.take (hget H id).size).length = (hget H id).size := by simp; omega
    obtain ⟨g1, g2⟩ := R_get hR hlen h3
    rw [hlen] at g1
    have hbs : bsize e.w (e.ρ id) = cells.size := by unfold bsize; rw [hc]
    rw [hbs]
    generalize (hget H id).get p = v at *
    cases v <;> simp only at h4
    obtain ⟨rfl, rfl⟩ := h4
    rename_i sz' m' f
    have g1' : offOf p + m' * sz' ≤ (hget H id).size := g1
    have : ((vopt A 0 lo').toNat + (m' - (vopt A 0 lo').toNat)) = m' := by omega
    rw [this]
    exact Nat.le_trans g1' hsz
  · rename_i v hy
    rw [hy] at hv
    cases v <;> simp only [bad] at hp
    rename_i sz' m' f
    obtain ⟨hb, rfl, rfl⟩ := hp
    obtain ⟨b, o, cc, el', fz, hx', hi, hbb, hl, hR⟩ := RV_imm hv
    rw [hx']
    obtain ⟨ad, hcap, hr⟩ := hrun b o hb
    refine good_pure hI (run_v hr) rfl (RV_mklst (by omega) (fun hpos => ?_))
    have had := hcap.resolve_left (by omega)
    simp only [V.size] at hl hR
    have hpt := R_part hR (o := (vopt A 0 lo').toNat) (m := (vopt A m' hi').toNat - (vopt A 0 lo').toNat) (by omega)
    have hmm : (vopt A 0 lo').toNat * sz' + ((vopt A m' hi').toNat - (vopt A 0 lo').toNat) * sz' ≤ m' * sz' := by
      rw [← Nat.add_mul]; exact Nat.mul_le_mul_right _ (by omega)
    rw [drop_take_drop _ _ _ _ _ hmm] at hpt
    simp only [R] at hpt
    refine ⟨b, o + (vopt A 0 lo').toNat * sz', cc, el', fz, by rw [had], hi, hbb, by omega, fun i hil => ?_⟩
    obtain ⟨q1, q2⟩ := hpt.2 i hil
    refine ⟨q1, ?_⟩
    have hi2 : i * sz' + sz' ≤ ((vopt A m' hi').toNat - (vopt A 0 lo').toNat) * sz' := by
      have : (i + 1) * sz' ≤ ((vopt A m' hi').toNat - (vopt A 0 lo').toNat) * sz' := Nat.mul_le_mul_right _ hil
      rw [Nat.add_mul] at this; omega
    rw [drop_take_drop _ _ _ _ _ hi2] at q2
    exact q2
  · exact hp.elim

theorem good_slsl {M : Seat} {c : Ctx} {e : Env} {H : Hp} {A : List V} {a : Act} (hI : Inv M c e H) (hA : FR e A a.tmps) {n : Nat} {t el : TypeId} {sz : Nat} {x : Operand} {y : X} {lo hi : Option Operand} {lo' hi' : Option X}
    (ht : M.P.underlying t = some (.slice el)) (hz : tsz M el = some sz) (hx : chkX M x y = true) (hg : GOK M e y) (hlo : chkO M lo lo' = true) (hglo : GOKo M e lo') (hhi : chkO M hi hi' = true) (hghi : GOKo M e hi')
    (hp : (step A H n (.slsl sz y lo' hi')).pre) :
    Good M c e n (step A H n (.slsl sz y lo' hi')) (Sem.run M.P (do pure (Next.value (← Instr.sliceAt t (a.eval x) (lo.map a.eval) (hi.map a.eval) none))) e.w) := by
  have hv := chkX_R hI.φ hA hx hg
  have hrun : ∀ (b : Option Addr) (len cap : Nat), len ≤ cap → (optInt A lo' ∧ optInt A hi' ∧ 0 ≤ vopt A 0 lo' ∧ vopt A 0 lo' ≤ vopt A len hi' ∧ vopt A len hi' ≤ len) →
      (Instr.sliceAt t (.slice b len cap) (lo.map a.eval) (hi.map a.eval) none).run M.P e.w = .ok (.slice (if cap = (vopt A 0 lo').toNat then b else b.map (·.add ((vopt A 0 lo').toNat * sz))) ((vopt A len hi').toNat - (vopt A 0 lo').toNat) (cap - (vopt A 0 lo').toNat)) e.w := by
    rintro b len cap hlc ⟨i1, i2, i3, i4, i5⟩
    have hb := run_bounds (P := M.P) e.w true len cap (lo.map a.eval) (hi.map a.eval) (vopt A 0 lo') (vopt A len hi') (opt_val hI.φ hA hlo hglo i1 0) (opt_val hI.φ hA hhi hghi i2 len) i3 i4 (by omega)
    simp only [Instr.sliceAt, Sem.run_bind, run_underlying ht, Result.andThen_ok, Instr.slice, hb, run_tsz hz, Sem.run_pure]
  simp only [step] at hp ⊢
  split at hp
  · rename_i id p o m sz' hy
    rw [hy] at hv
    obtain ⟨hb, rfl⟩ := hp
    obtain ⟨hD, b, cap, hx', hbb, hl, hbs⟩ := RV_sl hv
    rw [hx']
    have hr := hrun b m cap hl hb
    refine good_pure hI (run_v hr) rfl (RV_mksl hD ?_ (by omega) ?_)
    · by_cases hc0 : cap - (vopt A 0 lo').toNat = 0
      · exact .inl hc0
      · right
        rw [if_neg (by omega)]
        have := hbb.resolve_left (by omega)
        rw [this]
        simp only [Option.map_some, Addr_add, Nat.add_mul, Nat.add_assoc]
    · have : o + (vopt A 0 lo').toNat + (cap - (vopt A 0 lo').toNat) = o + cap := by omega
      rw [this]; exact hbs
  · rename_i sz' m f hy
    rw [hy] at hv
    obtain ⟨hb, rfl⟩ := hp
    obtain ⟨b, cap, hx', hl, hh⟩ := RV_lst hv
    rw [hx']
    have hres : RV e (.lst sz' ((vopt A m hi').toNat - (vopt A 0 lo').toNat) (fun i => f ((vopt A 0 lo').toNat + i))) (.slice (if cap = (vopt A 0 lo').toNat then b else b.map (·.add ((vopt A 0 lo').toNat * sz'))) ((vopt A m hi').toNat - (vopt A 0 lo').toNat) (cap - (vopt A 0 lo').toNat)) := by
      refine RV_mklst (by omega) (fun hpos => ?_)
      have hm0 : 0 < m := by clear hh; omega
      obtain ⟨bb, o, cc, el', fz, rfl, hi, hb', hsz, hR⟩ := hh hm0
      clear hh
      have hmm : (vopt A 0 lo').toNat * sz' + ((vopt A m hi').toNat - (vopt A 0 lo').toNat) * sz' ≤ m * sz' := by
        rw [← Nat.add_mul]; exact Nat.mul_le_mul_right _ (by omega)
      refine ⟨bb, o + (vopt A 0 lo').toNat * sz', cc, el', fz, ?_, hi, hb', by omega, fun i hil => ?_⟩
      · rw [if_neg (by omega)]
        simp [Addr_add]
      · have := hR ((vopt A 0 lo').toNat + i) (by omega)
        rw [Nat.add_mul, ← Nat.add_assoc] at this
        exact this
    exact good_pure hI (run_v (hrun b m cap hl hb)) rfl hres
  · rename_i hy
    rw [hy] at hv
    obtain ⟨i1, i2, i3, i4⟩ := hp
    have hx' : a.eval x = .slice none 0 0 := by simpa [RV, RS, V.isAgg, R] using hv
    rw [hx']
    have hr := hrun none 0 0 (Nat.le_refl _) ⟨i1, i2, by omega, by have : ((0 : Nat) : Int) = 0 := rfl; rw [this]; omega, by have : ((0 : Nat) : Int) = 0 := rfl; rw [this]; omega⟩
    refine good_pure hI (run_v hr) rfl ?_
    have e0 : ((0 : Nat) : Int) = 0 := rfl
    rw [e0, i3, i4]
    simp [RV, RS, V.isAgg, R]
  · exact hp.elim

theorem good_s2a {M : Seat} {c : Ctx} {e : Env} {H : Hp} {A : List V} {a : Act} (hI : Inv M c e H) (hA : FR e A a.tmps) {n : Nat} {t el : TypeId} {m sz : Nat} {x : Operand} {y : X}
    (ht : M.P.underlying t = some (.array m el)) (hx : chkX M x y = true) (hg : GOK M e y) (hp : (step A H n (.s2a m sz y)).pre) :
    Good M c e n (step A H n (.s2a m sz y)) (Sem.run M.P (do pure (Next.value (← Instr.arrayAt t (a.eval x)))) e.w) := by
  have hv := chkX_R hI.φ hA hx hg
  have hrun : ∀ (b : Option Addr) (len cap : Nat), m ≤ len → (Instr.arrayAt t (.slice b len cap)).run M.P e.w = .ok (.pointer b) e.w := by
    intro b len cap hl
    have : ¬ len < m := by omega
    simp [Instr.arrayAt, run_underlying ht, this]
  simp only [step] at hp ⊢
  split at hp
  · rename_i id p o l sz' hy
    rw [hy] at hv
    obtain ⟨rfl, h1, h2⟩ := hp
    obtain ⟨hD, b, cap, hx', hbb, hl, hbs⟩ := RV_sl hv
    rw [hx']
    have hb := hbb.resolve_left (by omega)
    subst hb
    exact good_pure hI (run_v (hrun _ _ _ h1)) rfl (RV_mkptr hD rfl (by rw [offOf_padd]; rfl))
  · rename_i sz' l f hy
    rw [hy] at hv
    obtain ⟨rfl, h1, h2⟩ := hp
    obtain ⟨b, cap, hx', hl, hh⟩ := RV_lst hv
    obtain ⟨bb, o, cc, el', fz, rfl, hi, hb', hsz, hR⟩ := hh (by omega)
    rw [hx']
    have hml : m * sz' ≤ l * sz' := Nat.mul_le_mul_right _ h1
    refine good_pure hI (run_v (hrun _ _ _ h1)) rfl (RV_mkimm hi hb' (by simp only [V.size]; omega) ?_)
    simp only [V.size, R]
    refine ⟨by simp; omega, fun i hi' => ?_⟩
    obtain ⟨q1, q2⟩ := hR i (by omega)
    refine ⟨q1, ?_⟩
    have hi2 : i * sz' + sz' ≤ m * sz' := by
      have : (i + 1) * sz' ≤ m * sz' := Nat.mul_le_mul_right _ hi'
      rw [Nat.add_mul] at this; omega
    rw [drop_take_drop _ _ _ _ _ hi2]
    exact q2
  · exact hp.elim

theorem good_mkif {M : Seat} {c : Ctx} {e : Env} {H : Hp} {A : List V} {a : Act} (hI : Inv M c e H) (hA : FR e A a.tmps) {n : Nat} {t : Nat} {d : TypeDesc} {x : Operand} {y : X}
    (ht : M.P.underlying (M.τ t) = some d) (hd : (match d with | .interface _ => false | _ => true) = true) (hx : chkX M x y = true) (hg : GOK M e y) (hp : (step A H n (.mkif t y)).pre) :
    Good M c e n (step A H n (.mkif t y)) (Sem.run M.P (do pure (Next.value (← Instr.makeInterface (M.τ t) (a.eval x)))) e.w) := by
  have hv := chkX_R hI.φ hA hx hg
  simp only [step] at hp ⊢
  rw [RV_solid hp] at hv
  refine good_pure hI (x := .iface (M.τ t) (a.eval x)) (run_v ?_) rfl ?_
  · simp only [Instr.makeInterface, Sem.run_bind, run_underlying ht, Result.andThen_ok]
    cases d <;> first | rfl | cases hd
  · simp only [RV, RS, V.isAgg, R]
    exact ⟨_, by rw [hI.τ], hp, by unfold RS at hv; exact hv⟩

theorem RT_get {e : Env} {i : Nat} : ∀ {fs : V} {xs : Array Value}, RT e fs xs → fs.fhas i = true → ∃ y, xs[i]? = some y ∧ RV e (fs.fget i) y
  | .fcons j v r, xs, h, hk => by
    simp only [RT] at h
    simp only [V.fget]
    split
    · rename_i hj
      subst hj
      obtain ⟨⟨h0, y, h1, h2⟩, _⟩ := h
      exact ⟨y, h1, (RV_solid h0).2 h2⟩
    · rename_i hj
      simp only [V.fhas, Bool.or_eq_true, beq_iff_eq, hj, false_or] at hk
      exact RT_get h.2 hk
  | .junk, _, _, hk | .int .., _, _, hk | .bool _, _, _, hk | .str _, _, _, hk | .nilp, _, _, hk | .ptr .., _, _, hk | .imm _, _, _, hk | .nils, _, _, hk
  | .sl .., _, _, hk | .lst .., _, _, hk | .nilm, _, _, hk | .map _, _, _, hk | .nilf, _, _, hk | .fn .., _, _, hk | .nili, _, _, hk | .ifc .., _, _, hk
  | .st .., _, _, hk | .ar .., _, _, hk | .fnil, _, _, hk | .tup _, _, _, hk | .mp .., _, _, hk => by simp [V.fhas] at hk

theorem good_ext {M : Seat} {c : Ctx} {e : Env} {H : Hp} {A : List V} {a : Act} (hI : Inv M c e H) (hA : FR e A a.tmps) {n : Nat} {i : Nat} {x : Operand} {y : X}
    (hx : chkX M x y = true) (hg : GOK M e y) (hp : (step A H n (.ext y i)).pre) :
    Good M c e n (step A H n (.ext y i)) (Sem.run M.P (do pure (Next.value (← Instr.extract (a.eval x) i))) e.w) := by
  have hv := chkX_R hI.φ hA hx hg
  simp only [step] at hp ⊢
  split at hp
  · rename_i fs hy
    rw [hy] at hv
    simp only [RV] at hv
    obtain ⟨xs, hx', hT⟩ := hv
    obtain ⟨z, h1, h2⟩ := RT_get hT hp
    rw [hx']
    refine good_pure hI (x := z) (run_v ?_) rfl h2
    simp [Instr.extract, h1]
  · exact hp.elim

theorem RV_nils {e : Env} {x : Value} (h : RV e .nils x) : x = .slice none 0 0 := by simpa [RV, RS, V.isAgg, R] using h
theorem RV_str {e : Env} {s : ByteArray} {x : Value} (h : RV e (.str s) x) : x = .string s := by simpa [RV, RS, V.isAgg, R] using h
theorem RV_nilm {e : Env} {x : Value} (h : RV e .nilm x) : x = .map none := by simpa [RV, RS, V.isAgg, R] using h
theorem RV_map {e : Env} {id : Nat} {x : Value} (h : RV e (.map id) x) : e.D id ∧ x = .map (some (e.ρ id)) := by simpa [RV, RS, V.isAgg, R] using h

def lenKind : Nat → TypeDesc → Bool
  | 0, .slice _ => true
  | 1, .string => true
  | 2, .map _ _ => true
  | _, _ => false

theorem good_len {M : Seat} {c : Ctx} {e : Env} {H : Hp} {A : List V} {a : Act} (hI : Inv M c e H) (hA : FR e A a.tmps) {n : Nat} {t ty : TypeId} {d : TypeDesc} {ts : Array TypeId} {k : Nat} {x : Operand} {y : X}
    (ht : M.P.underlying t = some d) (hts : ts[0]? = some t) (hd : lenKind k d = true)
    (hx : chkX M x y = true) (hg : GOK M e y) (hp : (step A H n (.len k y)).pre) :
    Good M c e n (step A H n (.len k y)) (Sem.run M.P (do pure (Next.value (← Builtin.len_ ts ty #[a.eval x]))) e.w) := by
  have hv := chkX_R hI.φ hA hx hg
  simp only [step] at hp ⊢
  split at hp
  · rename_i id p o m sz hy
    rw [hy] at hv
    obtain ⟨hD, b, cap, hx', _⟩ := RV_sl hv
    rw [hx']
    cases d <;> try (cases hd; done)
    refine good_pure hI (x := .int .i64 m) (run_v ?_) rfl (RV_mkint _ _)
    simp [Builtin.len_, hts, run_underlying ht, goInt]
  · rename_i sz m f hy
    rw [hy] at hv
    obtain ⟨b, cap, hx', _⟩ := RV_lst hv
    rw [hx']
    cases d <;> try (cases hd; done)
    refine good_pure hI (x := .int .i64 m) (run_v ?_) rfl (RV_mkint _ _)
    simp [Builtin.len_, hts, run_underlying ht, goInt]
  · rename_i hy
    rw [hy] at hv
    rw [RV_nils hv]
    cases d <;> try (cases hd; done)
    refine good_pure hI (x := .int .i64 0) (run_v ?_) rfl (RV_mkint _ _)
    simp [Builtin.len_, hts, run_underlying ht, goInt]
  · rename_i s hy
    rw [hy] at hv
    rw [RV_str hv]
    cases d <;> try (cases hd; done)
    refine good_pure hI (x := .int .i64 s.size) (run_v ?_) rfl (RV_mkint _ _)
    simp [Builtin.len_, hts, run_underlying ht, goInt]
  · rename_i hy
    rw [hy] at hv
    rw [RV_nilm hv]
    cases d <;> try (cases hd; done)
    refine good_pure hI (x := .int .i64 0) (run_v ?_) rfl (RV_mkint _ _)
    simp [Builtin.len_, hts, run_underlying ht, goInt]
  · rename_i id hy
    rw [hy] at hv
    obtain ⟨hD, hx'⟩ := RV_map hv
    rw [hx']
    cases d <;> try (cases hd; done)
    split at hp
    · rename_i m ks vs hm
      obtain ⟨_, hb, _, _⟩ := hI.blk id hp
      rw [hm] at hb
      obtain ⟨es, clock, h1, h2, _⟩ := hb
      refine good_pure hI (x := .int .i64 m) (run_v ?_) rfl (RV_mkint _ _)
      simp [Builtin.len_, hts, run_underlying ht, goInt, getObj, Sem.run, h1, h2]
    · exact hp.elim
  · exact hp.elim
end Mv
