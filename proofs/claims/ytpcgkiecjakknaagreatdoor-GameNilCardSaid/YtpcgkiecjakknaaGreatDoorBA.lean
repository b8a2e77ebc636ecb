/- A part. -/
import Derived.Test.YtpcgkiecjakknaaGreatDoorAZ
set_option linter.all false
set_option maxRecDepth 20000
set_option maxHeartbeats 16000000
namespace Mv
open Go

theorem runs_MoveA {M : Seat} (ok : OkMv M) (s v w : Dg) (b : Nat → BitVec 64) (i o k : BitVec 64) (hb : ¬ b 1 < 2#64) :
    Runs M 110 [.ptr 0 [], .int .i64 0, .bool false, dg w, .int .i64 1, W 2#64, W 3#64] [(0, gmV 2 10#64 0#64 s (.ptr 2 []) (.sl 1 [] 0 1 42)), (1, .ar 42 1 fun _ => (cl1 v).v), (2, ldV b i o (.sl 3 [] 0 1 2) k), (3, .ar 2 1 fun _ => bnV 1#64 false)] 4
      (fun r H' k' => r = tup2 (.int .i64 1) .nili ∧ H' = [(0, gmV 2 10#64 0#64 s (.ptr 2 []) (.sl 4 [] 0 2 42)), (2, ldV (fun j => if j = 1 then b 1 - 2#64 else b j) i o (.sl 5 [] 0 2 2) (k + 2#64)), (4, .ar 42 2 fun j => if j < 1 then (cl1 v).v else (cl3 w 1).v), (5, .ar 2 2 fun j => if j < 1 then bnV 1#64 false else bnV 2#64 false)] ∧ k' = 6) := by
  have hm := runs_moveA ok s v w b i o k hb
  simp only [cl1, cl2, cl3, Cl.v, ckV2, gmV, ruV, bnV] at hm
  refine runs_fr ok.g.n.k110 rfl fun x hx => ?_
  refine ex_sound 2000 _ _ _ _ ?_; (simp (maxSteps := 4000000) only [f110, c110, gmV, ruV, ckV2, cl1, Cl.v, LZ, seval, reduceCtorEq, forall_const])
  refine call_mN [0, 1, 2] [0, 1] (runs_find ok.g 2 10#64 0#64 s v (.ptr 2 []) rfl) (by rfl) (by rfl) (by decide) (by rfl) (by rfl) (by ((try simp only [gmV, ruV, ckV2, cl1, Cl.v, dg, LY, seval, reduceCtorEq, implies_true]); first | done | exact True.intro | rfl)) (by ((try simp only [gmV, ruV, ckV2, cl1, Cl.v, dg, LY, seval, reduceCtorEq, implies_true]); first | done | exact True.intro | rfl)) ?_
  (simp (maxSteps := 4000000) only [tup2, gmV, ruV, ckV2, cl1, Cl.v, LZ, seval, reduceCtorEq, forall_const])
  refine call_mN [0, 1, 2, 3] [0, 1, 2, 3] (hm) (by rfl) (by rfl) (by decide) (by rfl) (by rfl) (by ((try simp only [dg, ldV, bnV, LY, seval, reduceCtorEq, implies_true]); first | done | exact True.intro | rfl)) (by ((try simp only [dg, ldV, bnV, LY, seval, reduceCtorEq, implies_true]); first | done | exact True.intro | rfl)) ?_
  (simp (maxSteps := 4000000) only [tup2, LZ, seval, reduceCtorEq, forall_const])
  refine call_pZ (runs_atNil ok.g 0) ?_
  (simp (maxSteps := 4000000) only [tup2, ldV, LZ, seval, reduceCtorEq, forall_const])
  refine RetS.mk hx [0, 1, 2, 3, 388, 389] [] (tup2 (.int .i64 1) .nili) [(0, gmV 2 10#64 0#64 s (.ptr 2 []) (.sl 4 [] 0 2 42)), (2, ldV (fun j => if j = 1 then b 1 - 2#64 else b j) i o (.sl 5 [] 0 2 2) (k + 2#64)), (4, .ar 42 2 fun j => if j < 1 then (cl1 v).v else (cl3 w 1).v), (5, .ar 2 2 fun j => if j < 1 then bnV 1#64 false else bnV 2#64 false)] 6 (by decide) (by (simp only [LV, LZ, seval, reduceCtorEq, forall_const])) (by simp only [LV, tup2, LY, seval, reduceCtorEq, implies_true]) ?_ ⟨rfl, rfl, rfl⟩
  simp only [gmV, ruV, ckV2, cl1, cl3, Cl.v, ldV, bnV, dg, V.ren, LY, seval, reduceCtorEq, implies_true]
  (repeat' apply And.intro)
  all_goals
    intro j hj
    by_cases h : j < 1 <;> simp only [h, if_true, if_false, V.ren, W, B, LY, seval, reduceCtorEq, implies_true]
theorem runs_Claim1 {M : Seat} (ok : OkMv M) (s v w : Dg) : Runs M 111 [.ptr 0 [], .int .i64 1] [(0, gmV 2 10#64 0#64 s (.ptr 2 []) (.sl 1 [] 0 2 42)), (1, .ar 42 2 fun j => if j < 1 then (cl1 v).v else (cl3 w 1).v)] 3 (fun r H' k' => r = tup2 (cl3 w 1).v .nili ∧ H' = [(0, gmV 2 10#64 0#64 s (.ptr 2 []) (.sl 1 [] 0 2 42)), (1, .ar 42 2 fun j => if j < 1 then (cl1 v).v else (cl3 w 1).v)] ∧ k' = 3) := by
  refine runs_fr ok.g.n.k111 rfl fun x hx => ?_
  refine ex_sound 2000 _ _ _ _ ?_; (simp (maxSteps := 4000000) only [f111, c111, gmV, ruV, ckV2, cl1, cl3, Cl.v, LZ, seval, reduceCtorEq, forall_const])
  refine RetS.mk hx [0, 1, 2] [] (tup2 (cl3 w 1).v .nili) [(0, gmV 2 10#64 0#64 s (.ptr 2 []) (.sl 1 [] 0 2 42)), (1, .ar 42 2 fun j => if j < 1 then (cl1 v).v else (cl3 w 1).v)] 3 (by decide) (by (simp only [LV, LZ, seval, reduceCtorEq, forall_const])) (by simp only [LV, tup2, cl3, Cl.v, ckV2, dg, LZ, seval, reduceCtorEq, forall_const, LY, seval, reduceCtorEq, implies_true]) ?_ ⟨rfl, rfl, rfl⟩
  simp only [gmV, ruV, ckV2, cl1, cl3, Cl.v, dg, LY, seval, reduceCtorEq, implies_true]
  intro j hj
  by_cases h : j < 1 <;> simp only [h, if_true, if_false, LY, seval, reduceCtorEq, implies_true]
theorem runs_Len2 {M : Seat} (ok : OkMv M) (s : Dg) : Runs M 117 [.ptr 0 []] [(0, gmV 2 10#64 0#64 s (.ptr 2 []) (.sl 1 [] 0 2 42))] 3 (fun r H' k' => r = .int .i64 2 ∧ H' = [(0, gmV 2 10#64 0#64 s (.ptr 2 []) (.sl 1 [] 0 2 42))] ∧ k' = 3) := by
  refine runs_fr ok.g.n.k117 rfl fun x hx => ?_
  refine ex_sound 2000 _ _ _ _ ?_; (simp (maxSteps := 4000000) only [f117, c117, gmV, ruV, ckV2, LZ, seval, reduceCtorEq, forall_const])
  refine RetS.mk hx [0, 1, 2] [] _ _ _ (by decide) (by (simp only [LV, dg, LZ, seval, reduceCtorEq, forall_const])) (by ((try simp only [LV, dg, LZ, seval, reduceCtorEq, forall_const, LY, seval, reduceCtorEq, implies_true]); first | done | exact True.intro | (intros; rfl))) (by ((try simp only [dg, LY, seval, reduceCtorEq, implies_true]); first | done | exact True.intro | (intros; rfl))) ⟨rfl, rfl, rfl⟩
theorem runs_Status2 {M : Seat} (ok : OkMv M) (s v w : Dg) : Runs M 118 [.ptr 0 []] [(0, gmV 2 10#64 0#64 s (.ptr 2 []) (.sl 1 [] 0 2 42)), (1, .ar 42 2 fun j => if j < 1 then (cl1 v).v else (cl3 w 1).v)] 3 (fun r H' k' => r = .int .i64 0 ∧ H' = [(0, gmV 2 10#64 0#64 s (.ptr 2 []) (.sl 1 [] 0 2 42)), (1, .ar 42 2 fun j => if j < 1 then (cl1 v).v else (cl3 w 1).v)] ∧ k' = 3) := by
  refine runs_fr ok.g.n.k118 rfl fun x hx => ?_
  refine ex_sound 2000 _ _ _ _ ?_; (simp (maxSteps := 4000000) only [f118, c118, gmV, ruV, ckV2, cl1, cl3, Cl.v, LZ, seval, reduceCtorEq, forall_const])
  refine RetS.mk hx [0, 1, 2] [] (.int .i64 0) [(0, gmV 2 10#64 0#64 s (.ptr 2 []) (.sl 1 [] 0 2 42)), (1, .ar 42 2 fun j => if j < 1 then (cl1 v).v else (cl3 w 1).v)] 3 (by decide) (by (simp only [LV, LZ, seval, reduceCtorEq, forall_const])) (by simp only [LV, LY, seval, reduceCtorEq, implies_true]) ?_ ⟨rfl, rfl, rfl⟩
  simp only [gmV, ruV, ckV2, cl1, cl3, Cl.v, dg, LY, seval, reduceCtorEq, implies_true]
  intro j hj
  by_cases h : j < 1 <;> simp only [h, if_true, if_false, LY, seval, reduceCtorEq, implies_true]
/-- moot/mootlaw03.Why -/
def c140 : LC := (.seq (.reg [A1 2 (.mv (.c (.int .i64 0))),
  A1 3 (.mv (.c (.int .i64 0)))])
 ((.seq ((.seq (.reg [A1 6 (.mv (.t 0)),
  A1 7 (.eq false true (.iface [74]) (.t 6) (.c .nili))])
 (.cond (.t 7) ((.seq (.reg [A1 2 (.mv (.c (.int .i64 0))),
  A1 3 (.mv (.c (.int .i64 (-1))))])
 (.ret))) (.skip))))
 ((.seq (.reg [A1 4 (.alloc (.int .i64))])
 ((.seq ((.seq (.reg [A1 8 (.mv (.t 0)),
  A1 9 (.mkif 394 (.t 4)),
  ⟨(some 10), .call 93 [(.t 8), (.t 9)], none⟩,
  A1 11 (.un .not (.t 10))])
 (.cond (.t 11) ((.seq (.reg [A1 2 (.mv (.c (.int .i64 (-1)))),
  A1 3 (.mv (.c (.int .i64 (-1))))])
 (.ret))) (.skip))))
 ((.seq (.reg [A1 5 (.alloc .ptr)])
 ((.seq ((.seq (.reg [A1 12 (.mv (.t 0)),
  A1 13 (.mkif 147 (.t 5)),
  ⟨(some 14), .call 93 [(.t 12), (.t 13)], none⟩,
  A1 15 (.mv (.t 14)),
  A2 16 15 true (.load false 1 (.t 5)),
  A2 17 15 true (.eq true true .ptr (.t 16) (.c .nilp)),
  A1 18 (.pick (.t 15) (.t 17) (.c (.bool false)))])
 (.cond (.t 18) ((.seq (.regd [⟨0, 0, A1 19 (.load false 1 (.t 4))⟩,
  ⟨1, 0, A1 20 (.load false 1 (.t 5))⟩,
  ⟨2, 2, A1 21 (.nilc (.t 20))⟩,
  ⟨3, 6, A1 22 (.fadr 0 (.t 21))⟩,
  ⟨4, 14, A1 23 (.load false 1 (.t 22))⟩,
  ⟨5, 1, A1 2 (.mv (.t 19))⟩,
  ⟨6, 63, A1 3 (.mv (.t 23))⟩])
 (.ret))) (.skip))))
 ((.seq (.reg [A1 24 (.load false 1 (.t 4)),
  A1 2 (.mv (.t 24)),
  A1 3 (.mv (.c (.int .i64 (-1))))])
 (.ret))))))))))))))
def f140 : LF := ⟨c140, 1, 0, 25, [.tmp 2, .tmp 3]⟩


structure OkWF (M : Seat) : Prop where
  k140 : chkF M 140 f140 = true
  as3 : ∀ c e b : Int, Runs M 93 [.ifc 145 (.ptr 0 []), .ifc 394 (.ptr 1 [])] [(0, ftV c e), (1, .int .i64 b)] 2 (fun r H' k' => r = .bool true ∧ H' = [(0, ftV c e), (1, .int .i64 e)] ∧ k' = 2)
  as4 : ∀ c e : Int, Runs M 93 [.ifc 145 (.ptr 0 []), .ifc 147 (.ptr 1 [])] [(0, ftV c e), (1, .nilp)] 2 (fun r H' k' => r = .bool true ∧ H' = [(0, ftV c e), (1, .ptr 0 [])] ∧ k' = 2)
theorem runs_WhyF {M : Seat} (ok : OkWF M) (c e : Int) : Runs M 140 [.ifc 145 (.ptr 0 [])] [(0, ftV c e)] 1 (fun r H' k' => r = tup2 (.int .i64 e) (.int .i64 c) ∧ H' = [(0, ftV c e)] ∧ k' = 1) := by
  have h3 := ok.as3 c e 0
  have h4 := ok.as4 c e
  simp only [ftV, er] at h3 h4
  refine runs_fr ok.k140 rfl fun x hx => ?_
  refine ex_sound 2000 _ _ _ _ ?_; (simp (maxSteps := 4000000) only [f140, c140, ftV, er, LZ, seval, reduceCtorEq, forall_const])
  refine call_mZ [0, 65] (h3) ?_
  (simp (maxSteps := 4000000) only [LZ, seval, reduceCtorEq, forall_const])
  refine call_mZ [0, 145] (h4) ?_
  (simp (maxSteps := 4000000) only [LZ, seval, reduceCtorEq, forall_const])
  refine RetS.mk hx [0] [] _ _ _ (by decide) (by (simp only [LV, tup2, LZ, seval, reduceCtorEq, forall_const])) (by ((try simp only [LV, tup2, LZ, seval, reduceCtorEq, forall_const, LY, seval, reduceCtorEq, implies_true]); first | done | exact True.intro | (intros; rfl))) (by ((try simp only [tup2, LY, seval, reduceCtorEq, implies_true]); first | done | exact True.intro | (intros; rfl))) ⟨rfl, rfl, rfl⟩
theorem eqP_ck (a b : BitVec 64) : veqP false (ES.st (ES.cons 0 1 false ES.int (ES.cons 1 1 false ES.int ES.nil))) (.st 2 (.fcons 0 (W a) (.fcons 1 (W b) .fnil))) (.st 2 (.fcons 0 (W a) (.fcons 1 (W b) .fnil))) = True := by
  simp [veqP, W, V.fget, V.fhas]
  exact ⟨⟨rfl, rfl, rfl⟩, rfl, rfl, rfl⟩
theorem eqV_ck (a b : BitVec 64) : veqV (ES.st (ES.cons 0 1 false ES.int (ES.cons 1 1 false ES.int ES.nil))) (.st 2 (.fcons 0 (W a) (.fcons 1 (W b) .fnil))) (.st 2 (.fcons 0 (W a) (.fcons 1 (W b) .fnil))) = true := by
  simp [veqV, W, V.fget, V.fhas]
/-- What the document fixes of a game. -/
structure OkFx (M : Seat) : Prop where
  m : OkMv M
  r : OkRi M
  w : OkWF M
  k116 : chkF M 116 f116 = true
def d1 (a : BitVec 8) : Dg := Dg.mk' fun j => if j = 0 then a else 0#8
theorem ren_ite (m : List Nat) (c : Prop) [Decidable c] (a b : V) : V.ren m (if c then a else b) = if c then V.ren m a else V.ren m b := by split <;> rfl
theorem dig_1 (a : BitVec 8) : V.ar 1 32 (fun j => if j = 0 then B a else B 0#8) = dg (d1 a) := by
  have h : (fun j => if j = 0 then B a else B 0#8) = fun j => B ((d1 a).at j) := by
    funext j
    by_cases hj : j < 32
    · rw [d1, Dg.at_mk' _ _ hj]; split <;> rfl
    · rw [if_neg (by omega)]
      unfold Dg.at
      rw [List.getD_eq_getElem?_getD, List.getElem?_eq_none (by rw [(d1 a).h]; omega)]; rfl
  rw [h]; rfl
theorem runs_fixedG {M : Seat} (ok : OkFx M) : Runs M 116 [] [] 0 (fun r H' k' => r = .bool true ∧ H' = [] ∧ k' = 0) := by
  have hr := runs_rich ok.r 10#64 (by decide) (by decide)
  refine runs_fr ok.k116 rfl fun x hx => ?_
  refine ex_sound 2000 _ _ _ _ ?_; (simp (maxSteps := 4000000) only [f116, c116, LZ, seval, reduceCtorEq, forall_const])
  refine call_fA (hr) (by decide) (by ((try simp only [ldV, dlV, evV, LY, seval, reduceCtorEq, implies_true]); first | done | exact True.intro | rfl)) (by simp only [ldV, dlV, evV, LX, implies_true]) (by simp only [ldV, dlV, evV, LX, implies_true]) ?_
  (simp (maxSteps := 4000000) only [tup2, ldV, dlV, evV, LZ, seval, reduceCtorEq, forall_const])
  refine call_pA (runs_rules ok.m.g.n 2 10#64 0#64 Dg.zero) (by ((try simp only [ruV, ckV2, dg, LY, seval, reduceCtorEq, implies_true]); first | done | exact True.intro | rfl)) (by first | rfl | (simp only [LN, LP, V.ren, tup2, tup3])) (by simp only [ruV, ckV2, dg, LX, implies_true]) ?_
  (simp (maxSteps := 4000000) only [ruV, ckV2, dig_1, LZ, seval, reduceCtorEq, forall_const])
  have hN := runs_gNew ok.m.g Dg.zero (d1 1#8) (balV 10#64 8) (smV 10#64 8) 0#64 0#64 (by decide)
  simp only [ruV, ckV2, ldV, bnV, gmV, cl1, Cl.v] at hN
  refine call_mA [16] (hN) (by decide) (by rfl) (by ((try simp only [dg, LY, seval, reduceCtorEq, implies_true]); first | done | exact True.intro | rfl)) (by ((try simp only [dg, LY, seval, reduceCtorEq, implies_true]); first | done | exact True.intro | rfl)) (by simp only [dg, LX, implies_true]) (by simp only [dg, LX, implies_true]) ?_
  (simp (maxSteps := 4000000) only [tup2, dig_1, LZ, seval, reduceCtorEq, forall_const])
  have hD := runs_MoveD ok.m Dg.zero (d1 1#8) (d1 2#8) 1
  simp only [ruV, ckV2, gmV, cl1, Cl.v, ftV, er] at hD
  refine call_mN [209, 210, 16] [209, 210] (hD) (by rfl) (by rfl) (by decide) (by rfl) (by rfl) (by ((try simp only [dg, LY, seval, reduceCtorEq, implies_true]); first | done | exact True.intro | rfl)) (by ((try simp only [dg, LY, seval, reduceCtorEq, implies_true]); first | done | exact True.intro | rfl)) ?_
  (simp (maxSteps := 4000000) only [tup2, dig_1, LZ, seval, reduceCtorEq, forall_const])
  have hA := runs_MoveA ok.m Dg.zero (d1 1#8) (d1 2#8) (fun j => if j = 0 then balV 10#64 8 0 - 1#64 else balV 10#64 8 j) (smV 10#64 8) 0#64 1#64 (by decide)
  simp only [ruV, ckV2, gmV, cl1, cl3, Cl.v, ldV, bnV] at hA
  refine call_mN [209, 210, 16, 208] [209, 210, 16, 208] (hA) (by rfl) (by rfl) (by decide) (by rfl) (by rfl) (by ((try simp only [dg, LY, seval, reduceCtorEq, implies_true]); first | done | exact True.intro | rfl)) (by ((try simp only [dg, LY, seval, reduceCtorEq, implies_true]); first | done | exact True.intro | rfl)) ?_
  (simp (maxSteps := 4000000) only [tup2, ren_ite, LM, LZ, seval, reduceCtorEq, forall_const])
  have hW := runs_WhyF ok.w 0 45
  simp only [ftV, er] at hW
  refine call_mN [432] [432] (hW) (by rfl) (by rfl) (by decide) (by rfl) (by rfl) (by ((try simp only [dg, LY, seval, reduceCtorEq, implies_true]); first | done | exact True.intro | rfl)) (by ((try simp only [dg, LY, seval, reduceCtorEq, implies_true]); first | done | exact True.intro | rfl)) ?_
  (simp (maxSteps := 4000000) only [tup2, LM, LZ, seval, reduceCtorEq, forall_const])
  have hC := runs_Claim1 ok.m Dg.zero (d1 1#8) (d1 2#8)
  simp only [ruV, ckV2, gmV, cl1, cl3, Cl.v] at hC
  refine call_mN [209, 544, 16] [209, 544] (hC) (by rfl) (by rfl) (by decide) (by rfl) (by rfl) (by ((try simp only [dg, LY, seval, reduceCtorEq, implies_true]); first | done | exact True.intro | rfl | (intro j hj; by_cases h : j < 1 <;> simp only [h, if_true, if_false, LY, seval, reduceCtorEq, implies_true]))) (by ((try simp only [dg, LY, seval, reduceCtorEq, implies_true]); first | done | exact True.intro | rfl | (intro j hj; by_cases h : j < 1 <;> simp only [h, if_true, if_false, LY, seval, reduceCtorEq, implies_true]))) ?_
  (simp (maxSteps := 4000000) only [tup2, ren_ite, LM, eqP_ck, eqV_ck, LZ, seval, reduceCtorEq, forall_const])
  have hL := runs_Len2 ok.m Dg.zero
  have hS := runs_Status2 ok.m Dg.zero (d1 1#8) (d1 2#8)
  simp only [ruV, ckV2, gmV, cl1, cl3, Cl.v] at hL hS
  refine call_mN [209, 544, 16] [209] (hL) (by rfl) (by rfl) (by decide) (by rfl) (by rfl) (by ((try simp only [dg, LY, seval, reduceCtorEq, implies_true]); first | done | exact True.intro | rfl)) (by ((try simp only [dg, LY, seval, reduceCtorEq, implies_true]); first | done | exact True.intro | rfl)) ?_
  (simp (maxSteps := 4000000) only [LM, LZ, seval, reduceCtorEq, forall_const])
  refine call_mN [209, 544, 16] [209, 544] (hS) (by rfl) (by rfl) (by decide) (by rfl) (by rfl) (by ((try simp only [dg, LY, seval, reduceCtorEq, implies_true]); first | done | exact True.intro | rfl | (intro j hj; by_cases h : j < 1 <;> simp only [h, if_true, if_false, LY, seval, reduceCtorEq, implies_true]))) (by ((try simp only [dg, LY, seval, reduceCtorEq, implies_true]); first | done | exact True.intro | rfl | (intro j hj; by_cases h : j < 1 <;> simp only [h, if_true, if_false, LY, seval, reduceCtorEq, implies_true]))) ?_
  (simp (maxSteps := 4000000) only [LM, LZ, seval, reduceCtorEq, forall_const])
  exact RetS.mkZ hx [] ⟨rfl, rfl, rfl⟩
/-- moot/mootlaw19.GameNil -/
def c27 : LC := (.seq (.reg [A1 6 (.mv (.c (.bool false)))])
 ((.seq (.reg [A1 7 (.mv (.c .nilp))])
 ((.seq (.reg [A1 18 (.mv (.t 7)),
  A1 19 (.mv (.t 0)),
  A1 20 (.build (.ar 32 (.int .u8)) []),
  A1 21 (.mv (.t 1)),
  ⟨(some 22), .call 110 [(.t 18), (.t 19), (.c (.bool false)), (.t 20), (.c (.int .i64 0)), (.c (.int .u64 2)), (.t 21)], none⟩,
  A1 17 (.mv (.t 22)),
  A1 23 (.ext (.t 17) 0),
  A1 24 (.ext (.t 17) 1),
  A1 8 (.mv (.t 23)),
  A1 9 (.mv (.t 24))])
 ((.seq (.reg [A1 26 (.mv (.t 7)),
  A1 27 (.mv (.t 0)),
  ⟨(some 28), .call 111 [(.t 26), (.t 27)], none⟩,
  A1 25 (.mv (.t 28)),
  A1 29 (.ext (.t 25) 0),
  A1 30 (.ext (.t 25) 1),
  A1 10 (.alloc (.st (.cons (.int .i64) (.cons (.int .u64) (.cons (.ar 32 (.int .u8)) (.cons (.int .i64) (.cons (.int .i64) (.cons (.st (.cons (.int .u64) (.cons (.int .u64) .nil))) (.cons .bool (.cons .bool (.cons .bool (.cons (.int .i64) .nil)))))))))))),
  A0 (.store 42 (.t 10) (.t 29)),
  A1 11 (.mv (.t 30))])
 ((.seq (.reg [A1 32 (.build (.ar 32 (.int .u8)) []),
  ⟨(some 33), .call 113 [(.c (.int .i64 3)), (.c (.int .u64 9)), (.c (.int .u64 0)), (.t 32)], none⟩,
  A1 34 (.build (.ar 32 (.int .u8)) []),
  A1 35 (.mv (.t 1)),
  ⟨(some 36), .call 112 [(.t 33), (.c .nilp), (.c (.int .i64 0)), (.t 34), (.t 35)], none⟩,
  A1 31 (.mv (.t 36)),
  A1 37 (.ext (.t 31) 0),
  A1 38 (.ext (.t 31) 1),
  A1 12 (.mv (.t 37)),
  A1 13 (.mv (.t 38))])
 ((.seq ((.seq (.reg [A1 39 (.mv (.t 9)),
  A1 40 (.mv (.t 11)),
  A1 41 (.mv (.t 13)),
  A1 42 (.mv (.t 7)),
  A1 43 (.mv (.t 0)),
  A1 44 (.build (.st (.cons (.ar 32 (.int .u8)) (.cons (.st (.cons (.ar 16 (.int .u64)) (.cons (.int .u64) (.cons .bool (.cons (.int .u64) .nil))))) (.cons .slice (.cons (.ar 64 (.int .u8)) .nil))))) []),
  A1 45 (.mv (.t 1)),
  ⟨(some 46), .call 114 [(.t 42), (.t 43), (.c (.bool false)), (.t 44), (.c (.int .i64 0)), (.t 45)], none⟩,
  A1 47 (.mv (.t 7)),
  A1 48 (.mv (.t 0)),
  A1 49 (.mv (.t 1)),
  ⟨(some 50), .call 115 [(.t 47), (.t 48), (.t 49)], none⟩,
  A1 51 (.bsl 1 5 .iface [(.i 1 0, 1, (.t 39)), (.i 1 1, 1, (.t 40)), (.i 1 2, 1, (.t 41)), (.i 1 3, 1, (.t 46)), (.i 1 4, 1, (.t 50))]),
  A1 52 (.len 0 (.t 51)),
  A1 53 (.mv (.c (.int .i64 0)))])
 (.block 0 (.loop ((.seq (.reg [A1 54 (.ari .lss (.t 53) (.t 52))])
 ((.seq (.cond (.t 54) (.skip) (.exit 0))
 ((.seq (.block 1 ((.seq (.reg [A1 55 (.isl 1 (.t 51) (.t 53)),
  A1 56 (.load false 1 (.t 55)),
  A1 15 (.mv (.t 56))])
 ((.seq (.reg [A1 57 (.mv (.t 15)),
  A1 58 (.mkif 74 (.c (.int .i64 1))),
  ⟨(some 59), .call 63 [(.t 57), (.t 58)], none⟩,
  A1 60 (.un .not (.t 59))])
 (.cond (.t 60) ((.seq (.reg [A1 6 (.mv (.c (.bool false)))])
 (.ret))) (.skip)))))))
 (.reg [A1 61 (.ari .add (.t 53) (.c (.int .i64 1))),
  A1 53 (.mv (.t 61))])))))))))))
 ((.seq (.reg [A1 16 (.mv (.c (.int .u64 0)))])
 ((.seq ((.seq (.reg [A1 62 (.mv (.t 2)),
  A1 63 (.ari .geq (.t 62) (.c (.int .i64 0)))])
 (.cond (.t 63) (.reg [A1 64 (.mv (.t 2)),
  A1 65 (.conv .u64 (.t 64)),
  A1 66 (.ari .add (.t 65) (.c (.int .u64 1))),
  A1 16 (.mv (.t 66))]) (.skip))))
 ((.seq (.reg [⟨(some 67), .call 116 [], none⟩,
  A1 68 (.mv (.t 67)),
  A2 69 68 true (.mv (.t 7)),
  ⟨(some 70), .call 117 [(.t 69)], (some (68, true))⟩,
  A2 71 68 true (.ari .eql (.t 70) (.c (.int .i64 0))),
  A1 72 (.pick (.t 68) (.t 71) (.c (.bool false))),
  A1 73 (.mv (.t 72)),
  A2 74 73 true (.mv (.t 7)),
  ⟨(some 75), .call 118 [(.t 74)], (some (73, true))⟩,
  A2 76 73 true (.ari .eql (.t 75) (.c (.int .i64 0))),
  A1 77 (.pick (.t 73) (.t 76) (.c (.bool false))),
  A1 78 (.mv (.t 77)),
  A2 79 78 true (.mv (.t 7)),
  ⟨(some 80), .call 119 [(.t 79)], (some (78, true))⟩,
  A2 81 78 true (.build (.st (.cons (.int .i64) (.cons (.st (.cons (.int .u64) (.cons (.int .u64) .nil))) (.cons (.ar 32 (.int .u8)) .nil)))) []),
  A2 82 78 true (.eq false false (.st (.cons 0 1 false .int (.cons 1 2 true (.st (.cons 0 1 false .int (.cons 1 1 false .int .nil))) (.cons 3 32 true (.ar 32 1 false .int) .nil)))) (.t 80) (.t 81)),
  A1 83 (.pick (.t 78) (.t 82) (.c (.bool false))),
  A1 84 (.mv (.t 83)),
  A2 85 84 true (.mv (.t 2)),
  ⟨(some 86), .call 120 [(.t 85)], (some (84, true))⟩,
  A2 87 84 true (.mv (.t 16)),
  A2 88 84 true (.ari .eql (.t 86) (.t 87)),
  A1 89 (.pick (.t 84) (.t 88) (.c (.bool false))),
  A1 6 (.mv (.t 89))])
 (.ret))))))))))))))))))
def f27 : LF := ⟨c27, 3, 0, 90, [.tmp 6]⟩


theorem eqP_ru : veqP false (ES.st (ES.cons 0 1 false ES.int (ES.cons 1 2 true (ES.st (ES.cons 0 1 false ES.int (ES.cons 1 1 false ES.int ES.nil))) (ES.cons 3 32 true (ES.ar 32 1 false ES.int) ES.nil)))) (.st 35 (.fcons 0 (.int .i64 0) (.fcons 1 (.st 2 (.fcons 0 (W 0#64) (.fcons 1 (W 0#64) .fnil))) (.fcons 3 (dg Dg.zero) .fnil)))) (.st 35 (.fcons 0 (.int .i64 0) (.fcons 1 (.st 2 (.fcons 0 (W 0#64) (.fcons 1 (W 0#64) .fnil))) (.fcons 3 (dg Dg.zero) .fnil)))) = True := by
  simp [veqP, W, V.fget, V.fhas, dg]
  exact ⟨⟨rfl, rfl, rfl⟩, ⟨⟨rfl, rfl, rfl⟩, rfl, rfl, rfl⟩, ⟨rfl, rfl, rfl⟩, fun i hi => ⟨rfl, rfl⟩⟩
theorem eqV_ru : veqV (ES.st (ES.cons 0 1 false ES.int (ES.cons 1 2 true (ES.st (ES.cons 0 1 false ES.int (ES.cons 1 1 false ES.int ES.nil))) (ES.cons 3 32 true (ES.ar 32 1 false ES.int) ES.nil)))) (.st 35 (.fcons 0 (.int .i64 0) (.fcons 1 (.st 2 (.fcons 0 (W 0#64) (.fcons 1 (W 0#64) .fnil))) (.fcons 3 (dg Dg.zero) .fnil)))) (.st 35 (.fcons 0 (.int .i64 0) (.fcons 1 (.st 2 (.fcons 0 (W 0#64) (.fcons 1 (W 0#64) .fnil))) (.fcons 3 (dg Dg.zero) .fnil)))) = true := by
  simp [veqV, W, V.fget, V.fhas, dg]
  exact fun i hi => by show decide _ = true; simp
structure OkGl (M : Seat) : Prop where
  x : OkFx M
  k27 : chkF M 27 f27 = true
  is : ∀ a b : Int, Runs M 63 [.ifc 74 (.int .i64 a), .ifc 74 (.int .i64 b)] [] 0 (fun r H' k' => r = .bool (decide (a = b)) ∧ H' = [] ∧ k' = 0)
theorem runs_GameNil {M : Seat} (ok : OkGl M) (c : Int) (n : BitVec 64) (d : Int) : Runs M 27 [.int .i64 c, W n, .int .i64 d] [] 0 (fun r H' k' => r = .bool true ∧ H' = [] ∧ k' = 0) := by
  have okN := ok.x.m.g.n
  have zq : V.ar 1 32 (fun _ => B 0#8) = dg Dg.zero := by simp only [dg, Dg.at_zero]; rfl
  have hM := runs_MoveNil okN c false Dg.zero 0 2#64 n
  have hC := runs_ClaimNil okN c
  have hR := runs_rules okN 3 9#64 0#64 Dg.zero
  have hN := runs_NewNil okN 3 9#64 0#64 Dg.zero 0 Dg.zero n
  have hS := runs_StepNil okN c false 0 n
  have hV := runs_ResolveNil okN c n
  simp only [Cl.v, Cl.zero, ckV2, ruV, stZ] at hC hR hN hS
  refine runs_fr ok.k27 rfl fun x hx => ?_
  refine ex_sound 2000 _ _ _ _ ?_; (simp (maxSteps := 4000000) only [f27, c27, zq, LZ, seval, reduceCtorEq, forall_const])
  refine call_pA (hM) (by ((try simp only [dg, LY, seval, reduceCtorEq, implies_true]); first | done | exact True.intro | rfl)) (by first | rfl | (simp only [LN, LP, V.ren, tup2, tup3])) (by simp only [dg, LX, implies_true]) ?_
  (simp (maxSteps := 4000000) only [tup2, LZ, seval, reduceCtorEq, forall_const])
  refine call_pA (hC) (by ((try simp only [dg, LY, seval, reduceCtorEq, implies_true]); first | done | exact True.intro | rfl)) (by first | rfl | (simp only [LN, LP, V.ren, tup2, tup3])) (by simp only [dg, LX, implies_true]) ?_
  (simp (maxSteps := 4000000) only [tup2, zq, LZ, seval, reduceCtorEq, forall_const])
  refine call_pA (hR) (by ((try simp only [dg, LY, seval, reduceCtorEq, implies_true]); first | done | exact True.intro | rfl)) (by first | rfl | (simp only [LN, LP, V.ren, tup2, tup3])) (by simp only [dg, LX, implies_true]) ?_
  (simp (maxSteps := 4000000) only [zq, LZ, seval, reduceCtorEq, forall_const])
  refine call_pA (hN) (by ((try simp only [dg, LY, seval, reduceCtorEq, implies_true]); first | done | exact True.intro | rfl)) (by first | rfl | (simp only [LN, LP, V.ren, tup2, tup3])) (by simp only [dg, LX, implies_true]) ?_
  (simp (maxSteps := 4000000) only [tup2, zq, LZ, seval, reduceCtorEq, forall_const])
  refine call_pA (hS) (by ((try simp only [dg, LY, seval, reduceCtorEq, implies_true]); first | done | exact True.intro | rfl)) (by first | rfl | (simp only [LN, LP, V.ren, tup2, tup3])) (by simp only [dg, LX, implies_true]) ?_
  (simp (maxSteps := 4000000) only [LZ, seval, reduceCtorEq, forall_const])
  refine call_pZ (hV) ?_
  (simp (maxSteps := 4000000) only [LZ, seval, reduceCtorEq, forall_const])
  refine loop_rule (σ := Nat) (fun i => i ≤ 5) (fun i => fr 90 [(2, .int .i64 d), (6, .bool false), (7, .nilp), (51, .sl 0 [] 0 5 1), (52, .int .i64 5), (53, .int .i64 i)]) (fun _ => [(0, .ar 1 5 fun _ => er 1)]) (fun _ => 1) (fun i => 5 - i) 0 (by omega) ?_ ?_
  · refine Weak.fr [688] [] hx (by simp only [fr_length]) (by decide) ?_ ?_
    · simp only [Int.natCast_zero, LY, seval, reduceCtorEq, implies_true]
    · simp only [er, LY, seval, reduceCtorEq, implies_true]
      intro j hj
      have : j = 0 ∨ j = 1 ∨ j = 2 ∨ j = 3 ∨ j = 4 := by omega
      rcases this with rfl | rfl | rfl | rfl | rfl <;> simp only [LY, seval, reduceCtorEq, implies_true]
  · intro i hi
    refine ex_sound 2000 _ _ _ _ ?_
    by_cases h5 : i = 5
    · subst h5
      have d0 : (((5 : Nat) : Int) < 5) = False := eq_false (by omega)
      have hF := runs_fixedG ok.x
      have hL := runs_LenNil okN
      have hT := runs_StatusNil okN
      have hU := runs_RulesNil okN
      have hB := runs_Bond okN d
      simp only [ruV, ckV2] at hU
      by_cases hd : d < 0
      all_goals
        have hd' : (0 ≤ d) = (¬ d < 0) := by simp
        simp only [hd, if_true, if_false] at hB
        (simp (maxSteps := 4000000) only [d0, hd', hd, not_true_eq_false, not_false_eq_true, LZ, seval, reduceCtorEq, forall_const])
        refine call_pZ (hF) ?_
        (simp (maxSteps := 4000000) only [LZ, seval, reduceCtorEq, forall_const])
        refine call_pZ (hL) ?_
        (simp (maxSteps := 4000000) only [LZ, seval, reduceCtorEq, forall_const])
        refine call_pZ (hT) ?_
        (simp (maxSteps := 4000000) only [LZ, seval, reduceCtorEq, forall_const])
        refine call_pA (hU) (by ((try simp only [dg, LY, seval, reduceCtorEq, implies_true]); first | done | exact True.intro | rfl)) (by first | rfl | (simp only [LN, LP, V.ren, tup2, tup3])) (by simp only [dg, LX, implies_true]) ?_
        (simp (maxSteps := 4000000) only [zq, eqP_ru, eqV_ru, LZ, seval, reduceCtorEq, forall_const])
        refine call_pZ (hB) ?_
        (simp (maxSteps := 4000000) only [decide_true, LZ, seval, reduceCtorEq, forall_const])
        exact RetS.mkZ hx [] ⟨rfl, rfl, rfl⟩
    · have d0 : ((i : Int) < 5) = True := eq_true (by omega)
      have d1 : (i < 5) = True := eq_true (by omega)
      have w0 : IntKind.i64.wrap ((i : Int) + 1) = ((i + 1 : Nat) : Int) := by rw [wrap_i64 (by omega)]; omega
      (simp (maxSteps := 4000000) only [d0, d1, er, LZ, seval, reduceCtorEq, forall_const])
      repeat (refine And.intro (by first | omega | exact True.intro | rfl) ?_)
      refine call_pZ (ok.is 1 1) ?_
      (simp (maxSteps := 4000000) only [w0, decide_true, LZ, seval, reduceCtorEq, forall_const])
      refine ⟨i + 1, by omega, by omega, ?_⟩
      refine Weak.fr [0] [] hx (by simp only [fr_length]) (by decide) ?_ ?_
      · simp only [LY, seval, reduceCtorEq, implies_true]
      · simp only [er, LY, seval, reduceCtorEq, implies_true]
end Mv
