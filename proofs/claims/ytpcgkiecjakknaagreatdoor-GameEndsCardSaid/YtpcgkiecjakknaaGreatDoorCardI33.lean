/- Proved: Rows.GameEndsCardSaid: for every input mootlaw19.GameEnds returns true, and each argument reads afterwards as it read before. Conditions: none beyond those of the given card and its row. -/
import Derived.Test.YtpcgkiecjakknaaGreatDoorDP
import Derived.Test.YtpcgkiecjakknaaGreatDoorDS
import Derived.Test.YtpcgkiecjakknaaGreatDoorRows
import Derived.KernelRfl
import Derived.Test.YtpcgkiecjakknaaGreatDoorCards
import Derived.Test.YtpcgkiecjakknaaGreatDoorTie
import Derived.WalkKit
import Derived.ProofKit
import Derived.OpenShut
import Derived.Deep.DeepHandedRow
import Derived.Lib.LaidTab
import Derived.Stop.LaidErr
import Derived.LaidLaws
import Derived.LaidHandle
set_option linter.all false
set_option maxRecDepth 200000
namespace Go.Proofs.YtpcgkiecjakknaaGreatDoor
open Go Mv
noncomputable def st:Seat where
 P:=Tryz.prog
 φ:=fun i=>match i with | 33=>8 | 49=>96 | 50=>217 | 51=>94 | 52=>226 | 53=>225 | 54=>56 | 55=>93 | 59=>121 | 62=>95 | 68=>55 | 70=>58 | 74=>54 | 76=>53 | 79=>99 | 93=>26 | 97=>57 | 98=>88 | 110=>10 | 111=>11 | 112=>12 | 113=>13 | 114=>14 | 115=>15 | 116=>17 | 117=>18 | 118=>19 | 119=>20 | 120=>21 | 126=>24 | 127=>22 | 128=>23 | 129=>25 | 130=>27 | 131=>28 | 132=>29 | 133=>30 | 138=>31 | 140=>33 | 149=>42 | 150=>43 | 167=>216 | 197=>90 | 198=>219 | 199=>119 | 200=>118 | 201=>227 | 202=>149 | 207=>120 | 208=>152 | 212=>91 | 213=>92 | 214=>98 | 215=>100 | 216=>101 | 217=>102 | 220=>125 | 222=>66 | 223=>67 | 241=>97 | 246=>44 | 247=>45 | 248=>46 | 249=>47 | 250=>48 | 251=>49 | 252=>50 | 258=>59 | 259=>64 | 260=>65 | 263=>68 | 276=>218 | 277=>171 | 308=>134 | 312=>157 | 315=>115 | 316=>148 | 317=>150 | 318=>151 | 319=>116 | 320=>117 | 321=>126 | 322=>127 | 323=>128 | 324=>129 | 325=>130 | 327=>132 | 328=>133 | 346=>122 | 347=>123 | 348=>124 | 350=>80 | 351=>81 | 352=>82 | 353=>83 | 354=>84 | 355=>85 | 356=>86 | 357=>87 | 358=>89 | 359=>112 | 417=>172 | 418=>145 | 419=>146 | 420=>147 | 421=>154 | 423=>156 | 448=>153 | 452=>110 | 453=>111 | 454=>113 | 455=>114 | 462=>177 | 463=>173 | 487=>144 | 595=>213 | 596=>214 | 597=>215 | 598=>221 | 599=>222 | 600=>223 | 601=>224 | _=>0
 τ:=fun i=>match i with | 74=>55 | 145=>81 | 394=>164 | 147=>83 | 362=>212 | 422=>225 | 426=>257 | n=>n
 γ:=fun i=>match i with | 1=>3 | 2=>4 | 3=>5 | n=>n
 gl:=[1,2,3]
 raw:=[(0,.iface 198 (.agg #[.pointer (some ⟨6,25,none⟩)]))]
theorem fn352:EC st 352:=⟨by decide,Tryz.f82,Tryz.func82,by kernel_rfl,by kernel_rfl⟩
theorem fn220:EC st 220:=⟨by decide,Tryz.f125,Tryz.func125,by kernel_rfl,by kernel_rfl⟩
theorem mth426_0:AG st 426 0 599:=⟨⟨by decide,Tryz.f222,Tryz.func222,by kernel_rfl,by kernel_rfl⟩,fun v w=>by kernel_rfl⟩
theorem mth426_1:AG st 426 1 600:=⟨⟨by decide,Tryz.f223,Tryz.func223,by kernel_rfl,by kernel_rfl⟩,fun v w=>by kernel_rfl⟩
theorem mth426_2:AG st 426 2 598:=⟨⟨by decide,Tryz.f221,Tryz.func221,by kernel_rfl,by kernel_rfl⟩,fun v w=>by kernel_rfl⟩
theorem mth422_0:AG st 422 0 596:=⟨⟨by decide,Tryz.f214,Tryz.func214,by kernel_rfl,by kernel_rfl⟩,fun v w=>by kernel_rfl⟩
theorem mth422_1:AG st 422 1 597:=⟨⟨by decide,Tryz.f215,Tryz.func215,by kernel_rfl,by kernel_rfl⟩,fun v w=>by kernel_rfl⟩
theorem mth422_2:AG st 422 2 595:=⟨⟨by decide,Tryz.f213,Tryz.func213,by kernel_rfl,by kernel_rfl⟩,fun v w=>by kernel_rfl⟩
theorem okGN:OkGN st:=by constructor <;> kernel_rfl
theorem okLd:OkLd st:=by constructor <;> kernel_rfl
theorem okP:OkP st:=by constructor <;> kernel_rfl
theorem okPo:OkPo st:=⟨okP,by kernel_rfl,by kernel_rfl,by kernel_rfl,by kernel_rfl⟩
theorem okGm:OkGm st:=⟨okGN,okLd,okPo,by kernel_rfl,by kernel_rfl,by kernel_rfl,by kernel_rfl⟩
theorem okMv:OkMv st:=⟨okGm,by kernel_rfl,by kernel_rfl,by kernel_rfl,by kernel_rfl,by kernel_rfl,by kernel_rfl,by kernel_rfl,fn352⟩
theorem okCl:OkCl st:=⟨okMv,by kernel_rfl⟩
theorem okLe:OkLe st:=⟨okLd,by kernel_rfl,by kernel_rfl,by kernel_rfl⟩
theorem okGs:OkGs st:=⟨okMv,okCl,okLe,by kernel_rfl,by kernel_rfl,by kernel_rfl,by kernel_rfl⟩
theorem okGt:OkGt st:=⟨okGs,by kernel_rfl⟩
theorem okGr:OkGr st:=⟨okGt,by kernel_rfl⟩
theorem okM:OkM st:=by constructor <;> kernel_rfl
theorem okH:OkH st:=by constructor <;> kernel_rfl
theorem okS:OkS st:=⟨okH,by kernel_rfl,by kernel_rfl,by kernel_rfl,by kernel_rfl,by kernel_rfl⟩
theorem okV:OkV st:=⟨okS,by kernel_rfl,by kernel_rfl,by kernel_rfl,by kernel_rfl,by kernel_rfl,fn220⟩
theorem okI:OkI st:=⟨okV,by kernel_rfl⟩
theorem okW:OkW st:=⟨okI,by kernel_rfl⟩
theorem okO:OkO st:=⟨okW,by kernel_rfl,by kernel_rfl⟩
theorem okNx:OkNx st:=by constructor <;> kernel_rfl
theorem okQ:OkQ st:=⟨okM,okO,okP,okNx⟩
theorem okD:OkD st:=by constructor <;> kernel_rfl
theorem okCk:OkCk st:=⟨by kernel_rfl,by kernel_rfl,by kernel_rfl,by kernel_rfl,mth426_0,mth426_1,mth426_2⟩
theorem okPr:OkPr st:=⟨by kernel_rfl,by kernel_rfl,by kernel_rfl,by kernel_rfl,by kernel_rfl,mth422_0,mth422_1,mth422_2⟩
theorem okOs:OkOs st:=⟨okQ,okD,okCk,okPr,by kernel_rfl,by kernel_rfl⟩
theorem okTd:OkTd st:=⟨okOs,okW,by kernel_rfl⟩
theorem okTv:OkTv st:=⟨by kernel_rfl⟩
theorem okDl:OkDl st:=by constructor <;> kernel_rfl
theorem okRi:OkRi st:=⟨okLd,okDl,by kernel_rfl⟩
theorem okPl:OkPl st:=⟨okGr,okTd,okTv,okRi,by kernel_rfl⟩
theorem as3R (c e b:Int):Ag st 93 [.ifc 145 (.ptr 0 []),.ifc 394 (.ptr 1 [])] [(0,Bt c e),(1,.int .i64 b)] 2 (Q3 (.bool true) [(0,Bt c e),(1,.int .i64 e)] 2) :=
 IN (g:=0) (gv:=etV) (by simp [st]) (fun n k q t old w hg h0 h1 ht hf=>as_fe n k q t old w hg h0 h1 ht hf) c e b
theorem as4R (c e:Int):Ag st 93 [.ifc 145 (.ptr 0 []),.ifc 147 (.ptr 1 [])] [(0,Bt c e),(1,.nilp)] 2 (Q3 (.bool true) [(0,Bt c e),(1,.ptr 0 [])] 2) :=
 Ju (g:=0) (gv:=etV) (by simp [st]) (fun q t old w hg ht hf=>as_ff q t old w hg ht hf) c e
theorem okWF:OkWF st:=⟨by kernel_rfl,as3R,as4R⟩
theorem okFx:OkFx st:=⟨okMv,okRi,okWF,by kernel_rfl⟩
theorem okGa:OkGa st:=⟨okPl,okFx⟩
theorem okEn:OkEn st:=⟨okGa,by kernel_rfl⟩
end Go.Proofs.YtpcgkiecjakknaaGreatDoor
namespace Go.Proofs.YtpcgkiecjakknaaGreatDoor
open Go Mv Go.ChangeShapes Go.WideShapes Go.ChangeAt Go.RowKit
theorem own : ownKnob Tryz.prog.godebug = none := by kernel_rfl
theorem laidOut : laidOutB Tryz.prog = true := by kernel_rfl
theorem g1 : Tryz.prog.globalNamed "moot/keccak.rounds" = some 3 := by kernel_rfl
theorem t1 : (Tryz.prog.globals[3]?).map (·.type) = some 326 := by kernel_rfl
theorem g2 : Tryz.prog.globalNamed "moot/keccak.lanes" = some 4 := by kernel_rfl
theorem t2 : (Tryz.prog.globals[4]?).map (·.type) = some 328 := by kernel_rfl
theorem g3 : Tryz.prog.globalNamed "moot/keccak.turns" = some 5 := by kernel_rfl
theorem t3 : (Tryz.prog.globals[5]?).map (·.type) = some 328 := by kernel_rfl
theorem cells326 : Tryz.prog.cellsOf 326 = 24 := by kernel_rfl
theorem cells328 : Tryz.prog.cellsOf 328 = 24 := by kernel_rfl
theorem cells22 : Tryz.prog.cellsOf 22 = 1 := by kernel_rfl
theorem cells3 : Tryz.prog.cellsOf 3 = 1 := by kernel_rfl
theorem cells62 : Tryz.prog.cellsOf 62 = 7 := by kernel_rfl
theorem cells65 : Tryz.prog.cellsOf 65 = 8 := by kernel_rfl
theorem cells4 : Tryz.prog.cellsOf 4 = 1 := by kernel_rfl
theorem tables {W : World} (h : laidMetH Tryz.prog Rows.gameEndsRow.laid W) :
 Lib.TabIs Tryz.prog W "moot/keccak.rounds" .u64 rounds ∧ Lib.TabIs Tryz.prog W "moot/keccak.lanes" .i64 lanes ∧ Lib.TabIs Tryz.prog W "moot/keccak.turns" .i64 turns := by
 have h' : laidMet Tryz.prog [("moot/keccak.rounds", Lib.tabData .u64 rounds), ("moot/keccak.lanes", Lib.tabData .i64 lanes), ("moot/keccak.turns", Lib.tabData .i64 turns)] W := (show laidMet Tryz.prog [("moot/keccak.rounds", Lib.tabData .u64 rounds), ("moot/keccak.lanes", Lib.tabData .i64 lanes), ("moot/keccak.turns", Lib.tabData .i64 turns)] W ∧ handlesMet Tryz.prog [("errors.errorType", Rows.laid_errors_errorType)] W from h).1
 exact ⟨Lib.tabIs_of_head g1 t1 Tryz.underlying326 Tryz.underlying22 cells22 cells326 h', Lib.tabIs_of_head g2 t2 Tryz.underlying328 Tryz.underlying3 cells3 cells328 h'.tail, Lib.tabIs_of_head g3 t3 Tryz.underlying328 Tryz.underlying3 cells3 cells328 h'.tail.tail⟩
theorem et : Tryz.prog.globalNamed "errors.errorType" = some 0 := by kernel_rfl
theorem rtT : (Tryz.prog.cutTypes.find? (·.1 == "internal/reflectlite.rtype")).map (·.2) = some 198 := by kernel_rfl
theorem oneRow : ((List.range 371).filter fun t => Tryz.prog.rowNamed t [101, 114, 114, 111, 114]) = [25] := by kernel_rfl
theorem nTypes : Tryz.prog.types.size = 371 := by kernel_rfl
theorem handle_of_laid {W : World} (h : laidMetH Tryz.prog Rows.gameEndsRow.laid W) : W.cell? ⟨0, 0, none⟩ = some (.iface 198 (.agg #[.pointer (some ⟨6, 25, none⟩)])) := by
 have h' : laidMet Tryz.prog [("moot/keccak.rounds", Lib.tabData .u64 rounds), ("moot/keccak.lanes", Lib.tabData .i64 lanes), ("moot/keccak.turns", Lib.tabData .i64 turns)] W ∧ handlesMet Tryz.prog [("errors.errorType", Rows.laid_errors_errorType)] W := h
 obtain ⟨name, u, ty, e1, e2, e3, e4, e5⟩ := h'.2 _ (List.mem_singleton.2 rfl)
 have en : name = [101, 114, 114, 111, 114] := (Option.some.inj e1).symm
 subst en
 obtain rfl := Option.some.inj (rtT.symm.trans e2)
 have hm : ty ∈ (List.range 371).filter fun t => Tryz.prog.rowNamed t [101, 114, 114, 111, 114] := List.mem_filter.2 ⟨List.mem_range.2 (by rw [← nTypes]; exact e3), e4⟩
 rw [oneRow] at hm
 obtain rfl := List.mem_singleton.1 hm
 have hh : typeHandle Tryz.prog 25 = .pointer (some ⟨6, 25, none⟩) := by kernel_rfl
 rw [hh] at e5
 simpa using World.var?_cell et e5 0
theorem start_tables {W : World} (h : laidMetH Tryz.prog Rows.gameEndsRow.laid W) : GS st (F1 st W) := by
 obtain ⟨h1, h2, h3⟩ := tables h
 refine ⟨fun g hg => ?_, fun p hp => by
  have hp' : p = (0, .iface 198 (.agg #[.pointer (some ⟨6, 25, none⟩)])) := by simpa [st] using hp
  subst hp'
  have hc := handle_of_laid h
  unfold World.cell? at hc
  split at hc
  ·rename_i cs el fz hb
   exact ⟨⟨cs, el, fz, hb⟩, cs, el, fz, hb, by simpa using hc⟩
  ·cases hc⟩
 have hg' : g = 1 ∨ g = 2 ∨ g = 3 := by simpa [st] using hg
 rcases hg' with rfl | rfl | rfl
 ·exact Dk (M := st) h1 g1 (by decide)
 ·exact Dk (M := st) h2 g2 (by decide)
 ·exact Dk (M := st) h3 g3 (by decide)
theorem argsN {e : Env} {u0 u1 : V} {v0 v1 : Value} (h0 : RV e u0 v0) (h1 : RV e u1 v1) : HN e [u0, u1] #[v0, v1] := by
 refine ⟨rfl, fun i => ?_⟩
 match i with
 | 0 => exact h0
 | 1 => exact h1
 | i + 2 => exact trivial
theorem trodN {H : Type} {enc : TypeId × Value → H} {P : Program} {w : World} {base : Nat} {spare : Nat → Bool} {held : Bool} {t0 t1 : TypeId} {args : Array Value} {ds : List (DataW H)} {ps : List MemPlace}
 (h : DataW.TrodAll enc P w base spare held [t0, t1] args.toList ds ps) :
 ∃ v0 v1 d0 d1 p0 p1, args = #[v0, v1] ∧ ds = [d0, d1] ∧ ps = p0 ++ p1 ∧ DataW.Trod enc P w base spare held t0 v0 d0 p0 ∧
  DataW.Trod enc P w base spare held t1 v1 d1 p1 := by
 obtain ⟨v0, vs0, d0, ds0, p0, q0, ha, rfl, rfl, h0, hr0⟩ := trodAll_cons h
 obtain ⟨v1, vs1, d1, ds1, p1, q1, rfl, rfl, rfl, h1, hr1⟩ := trodAll_cons hr0
 obtain ⟨rfl, rfl, rfl⟩ := trodAll_nil hr1
 exact ⟨v0, v1, d0, d1, p0, p1, by cases args; simp_all, rfl, by simp, h0, h1⟩
theorem trodMk {H : Type} {enc : TypeId × Value → H} {P : Program} {w : World} {base : Nat} {spare : Nat → Bool} {held : Bool} {t0 t1 : TypeId} {v0 v1 : Value} {d0 d1 : DataW H} {p0 p1 : List MemPlace}
 (h0 : DataW.Trod enc P w base spare held t0 v0 d0 p0) (h1 : DataW.Trod enc P w base spare held t1 v1 d1 p1) :
 DataW.TrodAll enc P w base spare held [t0, t1] [v0, v1] [d0, d1] (p0 ++ p1) := by
 exact trodAll_mk2 h0 h1
theorem contract (H : Type) (enc : TypeId × Value → H) (W : World) (base : Nat) (args : Array Value) (ds gs : List (DataW H)) (before : List MemPlace)
 (hval : ∀ (j : Nat) t v, Tryz.f8.params[j]? = some t → args[j]? = some v → Value.okWide Tryz.prog W .any base t v)
 (hW : DataW.Whole enc Tryz.prog Tryz.f8.params.toList Rows.gameEndsSpec.vars false W args.toList ds gs before) (hL : laidMetH Tryz.prog Rows.gameEndsRow.laid W) :
 Calls Tryz.prog 8 args W fun e W' => ∃ v, e = .returned v ∧ Rows.gameEndsSpec.post enc Tryz.prog Tryz.f8 false true false false W args v W' := by
 have hW' := hW
 obtain ⟨p, q, hA0, hV, rfl, hfz, hnd⟩ := hW
 have hA : DataW.TrodAll enc Tryz.prog W 0 (fun _ => true) true Tryz.f8.params.toList args.toList ds p := hA0
 rw [Tryz.params8] at hA hval
 obtain ⟨v0, v1, d0, d1, p0, p1, rfl, rfl, rfl, h0, h1⟩ := trodN hA
 obtain ⟨rfl, rfl⟩ := trodVars_none hV
 clear hA0
 simp only [List.append_nil] at hW'
 obtain ⟨a0, r0⟩ := IQ (M := st) Tryz.underlying62 cells62 ⟨rfl, rfl, rfl, rfl, rfl, rfl, rfl⟩ Tryz.underlying3 Tryz.underlying3 Tryz.underlying3 Tryz.underlying22 Tryz.underlying22 Tryz.underlying22 Tryz.underlying22 cells3 cells3 cells3 cells22 cells22 cells22 cells22 (hval 0 62 v0 rfl rfl) h0
 obtain ⟨n1, a1, b1, l1, m1, r1⟩ := G2 (M := st) Tryz.underlying63 Tryz.underlying65 cells65 ⟨rfl, rfl, rfl, rfl, rfl, rfl, rfl, rfl⟩ Tryz.underlying3 Tryz.underlying3 Tryz.underlying4 Tryz.underlying3 Tryz.underlying3 Tryz.underlying22 Tryz.underlying22 Tryz.underlying22 cells3 cells3 cells4 cells3 cells3 cells22 cells22 cells22 (hval 1 63 v1 rfl rfl) h1
 refine (DP (M := st) (Kf okEn a0 n1 a1 b1 l1 m1) W (start_tables hL) (argsN r0 r1)).mono fun e W' he => ?_
 obtain ⟨x, v, H', k', e', rfl, hv, ⟨rfl, _, _⟩, hb⟩ := he
 have hx : x = .bool true := by simpa [RV, RS, V.isAgg, R] using hv
 subst hx
 have hlt0 : ∀ y ∈ p0, y.block < W.heap.size := fun y hy => hW'.lt y (by simp [hy])
 have hlt1 : ∀ y ∈ p1, y.block < W.heap.size := fun y hy => hW'.lt y (by simp [hy])
 refine ⟨_, rfl, [d0, d1], [], p0 ++ p1, [], p0 ++ p1, [], hW', ?_, ?_, rfl, hb.frame _, fun h => by cases h⟩
 ·exact trodAll_cons_mk (shut_bool Tryz.underlying4 true) trodAll_mk0
 ·rw [Tryz.params8]
  exact trodMk (Below.trod laidOut (by kernel_rfl) (of_decide_eq_true (by kernel_rfl)) h0 hb hlt0) (Below.trod laidOut (by kernel_rfl) (of_decide_eq_true (by kernel_rfl)) h1 hb hlt1)
noncomputable def laidWorld (os : Os) : World :=
 { World.holding Tryz.prog os ⟨#[], #[], []⟩ with heap := (((((World.holding Tryz.prog os ⟨#[], #[], []⟩).heap.modify 0 fun
  | .cells _ t frozen => .cells #[.iface 198 (.agg #[.pointer (some ⟨6, 25, none⟩)])] t frozen
  | o => o).modify 3 fun
  | .cells _ t frozen => .cells (rounds.map fun z => Value.int .u64 z).toArray t frozen
  | o => o).modify 4 fun
  | .cells _ t frozen => .cells (lanes.map fun z => Value.int .i64 z).toArray t frozen
  | o => o).modify 5 fun
  | .cells _ t frozen => .cells (turns.map fun z => Value.int .i64 z).toArray t frozen
  | o => o) }
def wargs : Array Value := #[.agg #[.int .i64 0, .int .i64 0, .int .i64 0, .int .u64 0, .int .u64 0, .int .u64 0, .int .u64 0], .slice none 0 0]
theorem laid_met (os : Os) : laidMetH Tryz.prog Rows.gameEndsRow.laid ((laidWorld os).forCall (fun _ _ => 0) ⟨#[], wargs, []⟩).memory :=
 laidMetH_of_parts (laidMet_of_run' 8 (by kernel_rfl) (by kernel_rfl)) (by kernel_rfl)
theorem reads (os : Os) {H : Type} (enc : TypeId × Value → H) : ∃ ds places, DataW.whole enc Tryz.prog ((laidWorld os).forCall (fun _ _ => 0) ⟨#[], wargs, []⟩).memory Tryz.f8.params.toList Rows.gameEndsSpec.vars false wargs.toList 8 = some (ds, [], places) :=
 ⟨[.agg [.lit (.int .i64 0), .lit (.int .i64 0), .lit (.int .i64 0), .lit (.int .u64 0), .lit (.int .u64 0), .lit (.int .u64 0), .lit (.int .u64 0)], .nil], [], by kernel_rfl⟩
theorem lifted (os : Os) (started : os.Started) (H : Type) (enc : TypeId × Value → H) (F : Stop.Interp) :
 ReturnsInHanded {} Tryz.checked os 8 .any ((OpenSpec.ofChange Rows.gameEndsSpec).preRow enc Tryz.prog Tryz.f8 Rows.gameEndsRow.domain false Rows.gameEndsRow.laid) (((OpenSpec.ofChange Rows.gameEndsSpec).at F).post enc Tryz.prog Tryz.f8 false true false false) := by
 obtain ⟨ds, places, hx⟩ := reads os enc
 refine returnsInHanded_of_row (C := Tryz.checked) (s := OpenSpec.ofChange Rows.gameEndsSpec) own started (by kernel_rfl) Tryz.func8
  (witness_row_at (enc := enc) (C := Tryz.checked) false (laidWorld os) wargs rfl (by kernel_rfl) (by kernel_rfl) (by kernel_rfl)
   (OpenSpec.preRow_of_cond 8 hx (by kernel_rfl) (fun k hk => by cases hk) (by kernel_rfl) (laid_met os))) ?_
 intro W base args ds gs before hval hW _ _ _ hL _ _
 exact contract H enc W base args ds gs before hval hW hL
theorem said : Rows.GameEndsSaid :=
 OpenClaim.holds_of_cond 8 Tryz.f8 rfl rfl rfl rfl rfl rfl rfl ⟨rfl, rfl, rfl, rfl, rfl⟩ rfl rfl rfl rfl rfl (by kernel_rfl) Tryz.func8 (by kernel_rfl)
  (of_decide_eq_true (by kernel_rfl)) (by unfold Func.isWrapper; first | (rw [if_pos (by decide +kernel)]; kernel_rfl) | (rw [if_neg (by decide +kernel)]; exact ⟨rfl, rfl⟩))
  (fun os started H enc _ F => by rw [OpenClaim.pre_eq_preRow]; exact lifted os started H enc F)
theorem plain (f : FuncId) (fn : Func) (hf : Tryz.pinned.checked.prog.funcNamed "moot/mootlaw19.GameEnds" = some f) (hfn : Tryz.pinned.checked.prog.funcs[f]? = some fn) :
 true = Tryz.pinned.checked.prog.looks [] ∧ ∀ (j : Nat) t, fn.params[j]? = some t → Tryz.pinned.checked.prog.wantsStandIn t = false := by
 obtain rfl : f = 8 := Option.some.inj ((show Tryz.prog.funcNamed "moot/mootlaw19.GameEnds" = some 8 by kernel_rfl).symm.trans hf) |>.symm
 obtain rfl : fn = Tryz.f8 := (Option.some.inj (Tryz.func8.symm.trans hfn)).symm
 refine ⟨by kernel_rfl, fun j t ht => ?_⟩
 rw [Tryz.params8] at ht
 have : t = 62 ∨ t = 63 := by have := Array.mem_of_getElem? ht; simp at this; first | exact this | omega | (rcases this with h | h <;> subst h <;> simp)
 rcases this with rfl | rfl
 ·exact (show Tryz.prog.wantsStandIn 62 = false by kernel_rfl)
 ·exact (show Tryz.prog.wantsStandIn 63 = false by kernel_rfl)
theorem card : Rows.GameEndsCardSaid :=
 Claim7.holds_tied_plain_at .later [] _ _ _ _ said (fun _ h => by cases h) (by kernel_rfl) (fun _ h => by cases h) gameEnds_row_tie rfl ⟨rfl, rfl⟩ (by kernel_rfl) rfl plain (by kernel_rfl)
end Go.Proofs.YtpcgkiecjakknaaGreatDoor
