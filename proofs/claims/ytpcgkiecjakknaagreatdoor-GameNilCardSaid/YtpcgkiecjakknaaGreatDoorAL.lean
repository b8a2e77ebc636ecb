/- A part. -/
import Derived.Test.YtpcgkiecjakknaaGreatDoorAK
set_option linter.all false
namespace Mv
open Go

theorem ev_congr {A B : List V} {x : X} (h : ∀ t ∈ x.ts, A.getD t .junk = B.getD t .junk) : x.ev A = x.ev B := by
  cases x <;> simp only [X.ev]
  exact h _ (by simp [X.ts])

theorem vbuild_congr {A B : List V} : ∀ (ps : List (Stp × Nat × X)) (c : V), (∀ t ∈ xts (ps.map fun q => q.2.2), A.getD t .junk = B.getD t .junk) → vbuild c A ps = vbuild c B ps ∧ (vbuildOK c A ps ↔ vbuildOK c B ps)
  | [], c, _ => ⟨rfl, Iff.rfl⟩
  | (s, sz, x) :: r, c, h => by
    have hx : x.ev A = x.ev B := ev_congr fun t ht => h t (by simp [xts, ht])
    have hr := vbuild_congr r (V.set (x.ev B) [s] c) (fun t ht => h t (by simp only [xts, List.map_cons, List.flatMap_cons, List.mem_append]; exact .inr ht))
    simp only [vbuild, vbuildOK, hx]
    exact ⟨hr.1, by rw [hr.2]⟩

theorem vcaps_congr {A B : List V} : ∀ (xs : List X) (n : Nat), (∀ t ∈ xts xs, A.getD t .junk = B.getD t .junk) → vcaps A xs n = vcaps B xs n ∧ (vcapsOK A xs ↔ vcapsOK B xs)
  | [], _, _ => ⟨rfl, Iff.rfl⟩
  | x :: r, n, h => by
    have hx : x.ev A = x.ev B := ev_congr fun t ht => h t (by simp [xts, ht])
    have hr := vcaps_congr r (n + 1) (fun t ht => h t (by simp only [xts, List.flatMap_cons, List.mem_append]; exact .inr ht))
    simp only [vcaps, vcapsOK, hx, hr.1, hr.2]
    exact ⟨trivial, trivial⟩

theorem evs_congr {A B : List V} : ∀ (xs : List X), (∀ t ∈ xts xs, A.getD t .junk = B.getD t .junk) → xs.map (X.ev A) = xs.map (X.ev B)
  | [], _ => rfl
  | x :: r, h => by
    have hx : x.ev A = x.ev B := ev_congr fun t ht => h t (by simp [xts, ht])
    rw [List.map_cons, List.map_cons, hx, evs_congr r (fun t ht => h t (by simp only [xts, List.flatMap_cons, List.mem_append]; exact .inr ht))]

theorem opt_congr {A B : List V} {o : Option X} (h : ∀ t ∈ ots o, A.getD t .junk = B.getD t .junk) (d : Int) : vopt A d o = vopt B d o ∧ optInt A o = optInt B o := by
  cases o with
  | none => exact ⟨rfl, rfl⟩
  | some x =>
    have hx : x.ev A = x.ev B := ev_congr h
    simp only [vopt, optInt, hx]
    exact ⟨trivial, trivial⟩

theorem step_congr {A B : List V} (H : Hp) (n : Nat) : ∀ (o : LO), (∀ t ∈ o.ts, A.getD t .junk = B.getD t .junk) → step A H n o = step B H n o := by
  intro o h
  cases o <;> simp only [LO.ts, List.mem_append] at h
  case build z ps =>
    obtain ⟨h1, h2⟩ := vbuild_congr ps (z.v 0) h
    simp only [step, h1, propext h2]
  case bsl sz m z ps =>
    obtain ⟨h1, h2⟩ := vbuild_congr ps (.ar sz m (fun _ => z.v 0)) h
    simp only [step, h1, propext h2]
  case mkfn f xs =>
    obtain ⟨h1, h2⟩ := vcaps_congr xs 0 h
    simp only [step, h1, propext h2]
  case slarr m sz x lo hi =>
    have hx : x.ev A = x.ev B := ev_congr fun t ht => h t (.inl (.inl ht))
    have hl := fun d => opt_congr (o := lo) (fun t ht => h t (.inl (.inr ht))) d
    have hh := fun d => opt_congr (o := hi) (fun t ht => h t (.inr ht)) d
    simp only [step, hx, (hl 0).1, (hl 0).2, (hh m).1, (hh m).2]
  case slsl sz x lo hi =>
    have hx : x.ev A = x.ev B := ev_congr fun t ht => h t (.inl (.inl ht))
    have hl := fun d => opt_congr (o := lo) (fun t ht => h t (.inl (.inr ht))) d
    have hh := fun d => opt_congr (o := hi) (fun t ht => h t (.inr ht)) d
    have h3 : ∀ d, vopt A d hi = vopt B d hi := fun d => (hh d).1
    simp only [step, hx, (hl 0).1, (hl 0).2, h3, (hh 0).2]
  case pick c a b =>
    have h1 : c.ev A = c.ev B := ev_congr fun t ht => h t (.inl (.inl ht))
    have h2 : a.ev A = a.ev B := ev_congr fun t ht => h t (.inl (.inr ht))
    have h3 : b.ev A = b.ev B := ev_congr fun t ht => h t (.inr ht)
    simp only [step, h1, h2, h3]
  case alloc => rfl
  case mkmap => rfl
  case nope => rfl
  case mm4 m a b c d =>
    have h1 : a.ev A = a.ev B := ev_congr fun t ht => h t (.inl (.inl (.inl ht)))
    have h2 : b.ev A = b.ev B := ev_congr fun t ht => h t (.inl (.inl (.inr ht)))
    have h3 : c.ev A = c.ev B := ev_congr fun t ht => h t (.inl (.inr ht))
    have h4 : d.ev A = d.ev B := ev_congr fun t ht => h t (.inr ht)
    simp only [step, h1, h2, h3, h4]
  case add64 a b c =>
    have h1 : a.ev A = a.ev B := ev_congr fun t ht => h t (.inl (.inl ht))
    have h2 : b.ev A = b.ev B := ev_congr fun t ht => h t (.inl (.inr ht))
    have h3 : c.ev A = c.ev B := ev_congr fun t ht => h t (.inr ht)
    simp only [step, h1, h2, h3]
  case mupd s a b c =>
    have h1 : a.ev A = a.ev B := ev_congr fun t ht => h t (.inl (.inl ht))
    have h2 : b.ev A = b.ev B := ev_congr fun t ht => h t (.inl (.inr ht))
    have h3 : c.ev A = c.ev B := ev_congr fun t ht => h t (.inr ht)
    simp only [step, h1, h2, h3]
  case mv x | mclone x | tas _ x | b2s x | mkmth _ x | nilm _ _ x | un _ x | conv _ x | box x | load _ _ x | nilc x | fadr _ x | fld _ _ _ x | s2a _ _ x | mkif _ x | ext x _ | len _ x =>
    have h1 : x.ev A = x.ev B := ev_congr h
    simp only [step, h1]
  case ari _ x y | eq _ _ _ x y | store _ x y | iarr _ _ x y | isl _ x y | idx _ _ _ x y | app _ _ x y | copy _ x y | mm _ x y | mksl _ _ _ x y | mlook _ _ _ x y | sidx x y =>
    have h1 : x.ev A = x.ev B := ev_congr fun t ht => h t (.inl ht)
    have h2 : y.ev A = y.ev B := ev_congr fun t ht => h t (.inr ht)
    simp only [step, h1, h2]

theorem vari_pure (op : BinOp) (x y : V) (H H' : Hp) : (vari op x y H).pre = (vari op x y H').pre ∧ (vari op x y H).v = (vari op x y H').v := by
  cases x <;> cases y <;> try exact ⟨rfl, rfl⟩
  cases op <;> exact ⟨rfl, rfl⟩

theorem vun_pure (op : UnOp) (x : V) (H H' : Hp) : (vun op x H).pre = (vun op x H').pre ∧ (vun op x H).v = (vun op x H').v := by
  cases op <;> cases x <;> exact ⟨rfl, rfl⟩

/-- What looks at no block. -/
theorem step_pure (A : List V) (H H' : Hp) (n : Nat) (o : LO) (h : LK.isP (.lo o) = true) : (step A H n o).pre = (step A H' n o).pre ∧ (step A H n o).v = (step A H' n o).v := by
  cases o <;> simp only [LK.isP, Bool.false_eq_true] at h
  case ari op x y => exact vari_pure _ _ _ _ _
  case un op x => exact vun_pure _ _ _ _
  case pick c a b => simp only [step]; split <;> exact ⟨rfl, rfl⟩
  case conv k x => simp only [step]; split <;> exact ⟨rfl, rfl⟩
  case nilc x => simp only [step]; split <;> exact ⟨rfl, rfl⟩
  case fadr x => simp only [step]; split <;> exact ⟨rfl, rfl⟩
  case iarr x => simp only [step]; split <;> exact ⟨rfl, rfl⟩
  case isl x => simp only [step]; split <;> exact ⟨rfl, rfl⟩
  case idx x => simp only [step]; split <;> exact ⟨rfl, rfl⟩
  case fld x => simp only [step]; split <;> exact ⟨rfl, rfl⟩
  case slsl x => simp only [step]; split <;> exact ⟨rfl, rfl⟩
  case s2a x => simp only [step]; split <;> exact ⟨rfl, rfl⟩
  case ext x => simp only [step]; split <;> exact ⟨rfl, rfl⟩
  case mm x => simp only [step]; split <;> exact ⟨rfl, rfl⟩
  case mksl x => simp only [step]; split <;> exact ⟨rfl, rfl⟩
  case sidx x => simp only [step]; split <;> exact ⟨rfl, rfl⟩
  case mkmth x => simp only [step]; split <;> exact ⟨rfl, rfl⟩
  case nilm x => simp only [step]; split <;> exact ⟨rfl, rfl⟩
  case add64 x => simp only [step]; split <;> exact ⟨rfl, rfl⟩
  case mm4 x => simp only [step]; split <;> exact ⟨rfl, rfl⟩
  case tas x => simp only [step]; split <;> exact ⟨rfl, rfl⟩
  all_goals exact ⟨rfl, rfl⟩

theorem vari_H (op : BinOp) (x y : V) (H : Hp) : (vari op x y H).H = H := by
  cases x <;> cases y <;> try rfl
  cases op <;> rfl

/-- What makes no block, and writes none, leaves the blocks. -/
theorem step_H (A : List V) (H : Hp) (n : Nat) (o : LO) (h : LK.isW (.lo o) = false) (h2 : LK.isA (.lo o) = false) : (step A H n o).H = H := by
  cases o <;> simp only [LK.isW, LK.isA, reduceCtorEq] at h h2
  case ari op x y => exact vari_H _ _ _ _
  case un op x => simp only [step]; cases op <;> cases hx : x.ev A <;> rfl
  case len k x => simp only [step]; repeat' split
                  all_goals rfl
  case slarr m sz x lo hi => simp only [step]; repeat' split
                             all_goals rfl
  case mlook s z ok m k => simp only [step, vlook]; split <;> (try rfl); split <;> rfl
  all_goals (try rfl)
  all_goals (simp only [step]; split <;> rfl)

/-- What makes a block. -/
theorem step_A (A : List V) (n : Nat) (o : LO) (h : LK.isA (.lo o) = true) : (∃ H, (step A H n o).pre) → ∃ c, ∀ H, (step A H n o).H = (n, c) :: H := by
  rintro ⟨H0, hp⟩
  cases o <;> simp only [LK.isA, Bool.false_eq_true] at h
  case mksl sz b z l c =>
    simp only [step] at hp ⊢
    split at hp
    · rename_i k a k' b' h1 h2
      exact ⟨.ar sz b'.toNat (fun _ => z.v 0), fun H => rfl⟩
    · exact hp.elim
  all_goals exact ⟨_, fun H => rfl⟩

/-- The first number of an operation's own blocks. -/
def bs (N m p : Nat) (k : LK) : Nat := N + 16 * (if k.isW then m + p else p)

/-- The blocks that are there in any order: those of an earlier place P, and those made since by what goes ahead. -/
def hx (al : List (Nat × Nat × V)) (P bf : Nat) (E : Hp) : Hp := (al.filter (fun q => decide (P ≤ q.1) && bf.testBit q.1)).map (·.2) ++ E

def epochs (A : List V) (b : Nat) (o : LO) (v : V) (wm bf : Nat) (al : List (Nat × Nat × V)) : List (Nat × Hp) → Prop
  | [] => True
  | (P, E) :: r => (bif (bf &&& wm) >>> P == 0 then ((step A (hx al P bf E) b o).pre ∧ (step A (hx al P bf E) b o).v = v) else True) ∧ epochs A b o v wm bf al r

def epk (A : List V) (b : Nat) (k : LK) (v : V) (wm bf : Nat) (al : List (Nat × Nat × V)) (bd : List (Nat × Hp)) : Prop :=
  match k with
  | .lo o => bif k.isP || k.isW then True else epochs A b o v wm bf al bd
  | _ => True

/-- No block has the number of an operation that is still to come. -/
def idsOK (lo hi : Nat) : Hp → Prop
  | [] => True
  | (i, _) :: r => (i < lo ∨ hi ≤ i) ∧ idsOK lo hi r

/-- What an operation comes to, the outcome named. -/
def OpD (M : Seat) (A : List V) (H : Hp) (b : Nat) (k : LK) (C : V → Hp → Prop) : Prop :=
  match k with
  | .lo o => (step A H b o).pre ∧ C (step A H b o).v (step A H b o).H
  | .call f xs => ∃ v H', CallK M f (xs.map (X.ev A)) H b (fun v' H'' => v' = v ∧ H'' = H') ∧ C v H'
  | .dyn x xs => ∃ v H', DynK M (x.ev A) (xs.map (X.ev A)) H b (fun v' H'' => v' = v ∧ H'' = H') ∧ C v H'

/-- A region that draws its order, gone through in one order. -/
def RoD (M : Seat) (K : List V → Hp → Prop) (m N wm : Nat) : List DOp → Nat → List V → Hp → List (Nat × Hp) → List (Nat × Nat × V) → Prop
  | [], _, A, H, _, _ => K A H
  | ⟨_, bf, ⟨d, k, none⟩⟩ :: r, p, A, H, bd, al =>
    OpD M A H (bs N m p k) k (fun v H' => (epk A (bs N m p k) k v wm bf al bd ∧ (bif k.isW then idsOK (N + 16 * p) (N + 16 * m) H' else True)) ∧
      RoD M K m N wm r (p + 1) (put A d v) H' (bif k.isW then (p + 1, H') :: bd else bd) (bif k.isA then (p, bs N m p k, hget H' (bs N m p k)) :: al else al))
  | ⟨_, bf, ⟨d, k, some (t, b0)⟩⟩ :: r, p, A, H, bd, al =>
    match A.getD t .junk with
    | .bool b' => (b' = b0 → OpD M A H (bs N m p k) k (fun v H' => (epk A (bs N m p k) k v wm bf al bd ∧ (bif k.isW then idsOK (N + 16 * p) (N + 16 * m) H' else True)) ∧
        RoD M K m N wm r (p + 1) (put A d v) H' (bif k.isW then (p + 1, H') :: bd else bd) (bif k.isA then (p, bs N m p k, hget H' (bs N m p k)) :: al else al))) ∧
      (b' = !b0 → RoD M K m N wm r (p + 1) (put A d (.tup .fnil)) H (bif k.isW then (p + 1, H) :: bd else bd) al)
    | .tup _ => RoD M K m N wm r (p + 1) (put A d (.tup .fnil)) H (bif k.isW then (p + 1, H) :: bd else bd) al
    | _ => False

/-- What is foreseen of each operation. -/
structure Pl where
  A : Nat → List V
  H : Nat → Hp
  x : Nat → Bool
  v : Nat → V

def opAt (L : List DOp) (p : Nat) : LOp := ((L[p]?).map (·.o)).getD ⟨none, .lo (.mv (.c .junk)), none⟩
def kAt (L : List DOp) (p : Nat) : LK := (opAt L p).k
def dAt (L : List DOp) (p : Nat) : Option Nat := (opAt L p).d

def alOf (L : List DOp) (N : Nat) (F : Pl) : Nat → List (Nat × Nat × V)
  | 0 => []
  | p + 1 => bif (kAt L p).isA && F.x p then (p, bs N L.length p (kAt L p), hget (F.H (p + 1)) (bs N L.length p (kAt L p))) :: alOf L N F p else alOf L N F p

def bdOf (L : List DOp) (F : Pl) : Nat → List (Nat × Hp)
  | 0 => [(0, F.H 0)]
  | p + 1 => bif (kAt L p).isW then (p + 1, F.H (p + 1)) :: bdOf L F p else bdOf L F p

structure PlanAt (M : Seat) (L : List DOp) (N wm : Nat) (F : Pl) (p : Nat) : Prop where
  g : match (opAt L p).g with
    | none => F.x p = true
    | some (t, b0) => match (F.A p).getD t .junk with
      | .bool b' => F.x p = (b' == b0)
      | .tup _ => F.x p = false
      | _ => False
  run : F.x p = true → OpD M (F.A p) (F.H p) (bs N L.length p (kAt L p)) (kAt L p) (fun v H' => v = F.v p ∧ H' = F.H (p + 1)) ∧
    epk (F.A p) (bs N L.length p (kAt L p)) (kAt L p) (F.v p) wm (bfAt L p) (alOf L N F p) (bdOf L F p) ∧ (bif (kAt L p).isW then idsOK (N + 16 * p) (N + 16 * L.length) (F.H (p + 1)) else True)
  skip : F.x p = false → F.v p = .tup .fnil ∧ F.H (p + 1) = F.H p
  next : F.A (p + 1) = put (F.A p) (dAt L p) (F.v p)

/-- Alike up to p. -/
structure Same (F G : Pl) (p : Nat) : Prop where
  A : ∀ i, i ≤ p → G.A i = F.A i
  H : ∀ i, i ≤ p → G.H i = F.H i
  x : ∀ i, i < p → G.x i = F.x i
  v : ∀ i, i < p → G.v i = F.v i

theorem alOf_same {L : List DOp} {N : Nat} {F G : Pl} : ∀ {p q : Nat}, Same F G q → p ≤ q → alOf L N G p = alOf L N F p
  | 0, _, _, _ => rfl
  | p + 1, q, h, hq => by simp only [alOf, h.x p (by omega), h.H (p + 1) hq, alOf_same h (by omega : p ≤ q)]

theorem bdOf_same {L : List DOp} {F G : Pl} : ∀ {p q : Nat}, Same F G q → p ≤ q → bdOf L G p = bdOf L F p
  | 0, _, h, _ => by simp only [bdOf, h.H 0 (by omega)]
  | p + 1, q, h, hq => by simp only [bdOf, h.H (p + 1) hq, bdOf_same h (by omega : p ≤ q)]

theorem PlanAt.same {M : Seat} {L : List DOp} {N wm : Nat} {F G : Pl} {p : Nat} (h : Same F G (p + 1)) (hp : PlanAt M L N wm F p) : PlanAt M L N wm G p := by
  obtain ⟨h1, h2, h3, h4⟩ := hp
  have e1 := h.A p (by omega)
  have e2 := h.H p (by omega)
  have e3 := h.A (p + 1) (by omega)
  have e4 := h.H (p + 1) (by omega)
  have e5 := h.x p (by omega)
  have e6 := h.v p (by omega)
  have e7 := alOf_same (L := L) (N := N) h (by omega : p ≤ p + 1)
  have e8 := bdOf_same (L := L) h (by omega : p ≤ p + 1)
  refine ⟨?_, ?_, ?_, ?_⟩
  · rw [e1, e5]; exact h1
  · rw [e1, e2, e4, e5, e6, e7, e8]; exact h2
  · rw [e2, e4, e5, e6]; exact h3
  · rw [e1, e3, e6]; exact h4

/-- From a run, what is foreseen. -/
theorem RoD_plan {M : Seat} {K : List V → Hp → Prop} {L : List DOp} {N wm : Nat} : ∀ (r : List DOp) (p : Nat) (F : Pl), (∀ i, L[p + i]? = r[i]?) → p + r.length = L.length →
    RoD M K L.length N wm r p (F.A p) (F.H p) (bdOf L F p) (alOf L N F p) → ∃ G, Same F G p ∧ (∀ i, p ≤ i → i < L.length → PlanAt M L N wm G i) ∧ K (G.A L.length) (G.H L.length)
  | [], p, F, _, hl, h => by
    simp only [RoD] at h
    have : p = L.length := by simpa using hl
    subst this
    exact ⟨F, ⟨fun _ _ => rfl, fun _ _ => rfl, fun _ _ => rfl, fun _ _ => rfl⟩, fun i h1 h2 => by omega, h⟩
  | D :: r, p, F, hL, hl, h => by
    have hp : L[p]? = some D := by simpa using hL 0
    have hr : ∀ i, L[p + 1 + i]? = r[i]? := fun i => by
      have := hL (i + 1)
      have e1 : p + (i + 1) = p + 1 + i := by omega
      rw [e1] at this
      simpa using this
    have hll : p + 1 + r.length = L.length := by simp only [List.length_cons] at hl; omega
    have hop : opAt L p = D.o := by simp [opAt, hp]
    have hbf : bfAt L p = D.bf := by simp [bfAt, hp]
    -- one step foreseen
    have key : ∀ (x : Bool) (v : V) (H' : Hp),
        (let G : Pl := { A := fun i => if i = p + 1 then put (F.A p) (dAt L p) v else F.A i, H := fun i => if i = p + 1 then H' else F.H i, x := fun i => if i = p then x else F.x i, v := fun i => if i = p then v else F.v i }
         PlanAt M L N wm G p ∧ RoD M K L.length N wm r (p + 1) (G.A (p + 1)) (G.H (p + 1)) (bdOf L G (p + 1)) (alOf L N G (p + 1))) →
        ∃ G, Same F G p ∧ (∀ i, p ≤ i → i < L.length → PlanAt M L N wm G i) ∧ K (G.A L.length) (G.H L.length) := by
      rintro x v H' ⟨h1, h2⟩
      obtain ⟨G, hs, hall, hK⟩ := RoD_plan r (p + 1) _ hr hll h2
      refine ⟨G, ⟨fun i hi => ?_, fun i hi => ?_, fun i hi => ?_, fun i hi => ?_⟩, fun i h3 h4 => ?_, hK⟩
      · rw [hs.A i (by omega)]; show (if _ then _ else _) = _; rw [if_neg (by omega)]
      · rw [hs.H i (by omega)]; show (if _ then _ else _) = _; rw [if_neg (by omega)]
      · rw [hs.x i (by omega)]; show (if _ then _ else _) = _; rw [if_neg (by omega)]
      · rw [hs.v i (by omega)]; show (if _ then _ else _) = _; rw [if_neg (by omega)]
      · by_cases hip : i = p
        · subst hip; exact h1.same hs
        · exact hall i (by omega) h4
    have same0 : ∀ (x : Bool) (v : V) (H' : Hp), Same F { A := fun i => if i = p + 1 then put (F.A p) (dAt L p) v else F.A i, H := fun i => if i = p + 1 then H' else F.H i, x := fun i => if i = p then x else F.x i, v := fun i => if i = p then v else F.v i } p := fun x v H' =>
      ⟨fun i hi => if_neg (by omega), fun i hi => if_neg (by omega), fun i hi => if_neg (by omega), fun i hi => if_neg (by omega)⟩
    have doIt : (match D.o.g with
        | none => True
        | some (t, b0) => match (F.A p).getD t .junk with
          | .bool b' => b' = b0
          | _ => False) →
        OpD M (F.A p) (F.H p) (bs N L.length p D.o.k) D.o.k (fun v H' => (epk (F.A p) (bs N L.length p D.o.k) D.o.k v wm D.bf (alOf L N F p) (bdOf L F p) ∧ (bif D.o.k.isW then idsOK (N + 16 * p) (N + 16 * L.length) H' else True)) ∧
          RoD M K L.length N wm r (p + 1) (put (F.A p) D.o.d v) H' (bif D.o.k.isW then (p + 1, H') :: bdOf L F p else bdOf L F p) (bif D.o.k.isA then (p, bs N L.length p D.o.k, hget H' (bs N L.length p D.o.k)) :: alOf L N F p else alOf L N F p)) →
        ∃ G, Same F G p ∧ (∀ i, p ≤ i → i < L.length → PlanAt M L N wm G i) ∧ K (G.A L.length) (G.H L.length) := by
      intro hg ho
      have : ∃ v H', OpD M (F.A p) (F.H p) (bs N L.length p D.o.k) D.o.k (fun v' H'' => v' = v ∧ H'' = H') ∧ (epk (F.A p) (bs N L.length p D.o.k) D.o.k v wm D.bf (alOf L N F p) (bdOf L F p) ∧ (bif D.o.k.isW then idsOK (N + 16 * p) (N + 16 * L.length) H' else True)) ∧
          RoD M K L.length N wm r (p + 1) (put (F.A p) D.o.d v) H' (bif D.o.k.isW then (p + 1, H') :: bdOf L F p else bdOf L F p) (bif D.o.k.isA then (p, bs N L.length p D.o.k, hget H' (bs N L.length p D.o.k)) :: alOf L N F p else alOf L N F p) := by
        unfold OpD at ho ⊢
        cases hk : D.o.k with
        | lo o => rw [hk] at ho; exact ⟨_, _, ⟨ho.1, rfl, rfl⟩, ho.2⟩
        | call f xs => rw [hk] at ho; obtain ⟨v, H', h1, h2⟩ := ho; exact ⟨v, H', ⟨v, H', h1, rfl, rfl⟩, h2⟩
        | dyn x xs => rw [hk] at ho; obtain ⟨v, H', h1, h2⟩ := ho; exact ⟨v, H', ⟨v, H', h1, rfl, rfl⟩, h2⟩
      obtain ⟨v, H', h1, ⟨h2, h2'⟩, h3⟩ := this
      refine key true v H' ⟨⟨?_, ?_, ?_, ?_⟩, ?_⟩
      · simp only [hop, if_true, if_neg (by omega : ¬ p = p + 1)]
        cases hgs : D.o.g with
        | none => trivial
        | some q =>
          obtain ⟨t, b0⟩ := q
          rw [hgs] at hg
          simp only at hg ⊢
          cases hA : (F.A p).getD t .junk <;> rw [hA] at hg <;> simp only at hg
          subst hg
          simp
      · intro _
        have e7 := alOf_same (L := L) (N := N) (same0 true v H') (Nat.le_refl p)
        have e8 := bdOf_same (L := L) (same0 true v H') (Nat.le_refl p)
        rw [e7, e8]
        simp only [kAt, hop, hbf, if_true, if_neg (by omega : ¬ p = p + 1)]
        exact ⟨h1, h2, h2'⟩
      · intro hf; simp at hf
      · simp only [if_true, if_neg (by omega : ¬ p = p + 1)]
      · have e7 := alOf_same (L := L) (N := N) (same0 true v H') (Nat.le_refl p)
        have e8 := bdOf_same (L := L) (same0 true v H') (Nat.le_refl p)
        simp only [alOf, bdOf, e7, e8]
        simp only [kAt, dAt, hop, if_true, Bool.and_true]
        exact h3
    have skipIt : (match D.o.g with
        | none => False
        | some (t, b0) => match (F.A p).getD t .junk with
          | .bool b' => b' = !b0
          | .tup _ => True
          | _ => False) →
        RoD M K L.length N wm r (p + 1) (put (F.A p) D.o.d (.tup .fnil)) (F.H p) (bif D.o.k.isW then (p + 1, F.H p) :: bdOf L F p else bdOf L F p) (alOf L N F p) →
        ∃ G, Same F G p ∧ (∀ i, p ≤ i → i < L.length → PlanAt M L N wm G i) ∧ K (G.A L.length) (G.H L.length) := by
      intro hg h3
      refine key false (.tup .fnil) (F.H p) ⟨⟨?_, ?_, ?_, ?_⟩, ?_⟩
      · simp only [hop, if_true, if_neg (by omega : ¬ p = p + 1)]
        cases hgs : D.o.g with
        | none => rw [hgs] at hg; exact hg.elim
        | some q =>
          obtain ⟨t, b0⟩ := q
          rw [hgs] at hg
          simp only at hg ⊢
          cases hA : (F.A p).getD t .junk <;> rw [hA] at hg <;> simp only at hg
          · subst hg
            cases b0 <;> rfl
          · trivial
      · intro hf; simp at hf
      · intro _
        simp only [if_true, if_neg (by omega : ¬ p = p + 1)]
        exact ⟨trivial, trivial⟩
      · simp only [if_true, if_neg (by omega : ¬ p = p + 1)]
      · have e7 := alOf_same (L := L) (N := N) (same0 false (.tup .fnil) (F.H p)) (Nat.le_refl p)
        have e8 := bdOf_same (L := L) (same0 false (.tup .fnil) (F.H p)) (Nat.le_refl p)
        simp only [alOf, bdOf, e7, e8]
        simp only [kAt, dAt, hop, if_true, Bool.and_false, cond_false]
        exact h3
    obtain ⟨ix, bf, ⟨d, k, g⟩⟩ := D
    cases g with
    | none => exact doIt trivial (by simpa only [RoD] using h)
    | some q =>
      obtain ⟨t, b0⟩ := q
      simp only [RoD] at h
      split at h
      · rename_i b' hb'
        by_cases hb : b' = b0
        · exact doIt (by simp only [hb']; exact hb) (h.1 hb)
        · have hb2 : b' = !b0 := by
            clear h doIt skipIt key same0
            revert hb
            cases b' <;> cases b0 <;> simp
          exact skipIt (by simp only [hb']; exact hb2) (h.2 hb2)
      · rename_i fs hb'
        exact skipIt (by simp only [hb']) h
      · exact h.elim
end Mv
