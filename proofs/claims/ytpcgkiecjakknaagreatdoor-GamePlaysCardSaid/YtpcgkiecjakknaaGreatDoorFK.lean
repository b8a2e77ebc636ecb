/- A part. -/
import Derived.Test.YtpcgkiecjakknaaGreatDoorFJ
set_option linter.all false
set_option maxRecDepth 20000
set_option maxHeartbeats 16000000
namespace Mv
open Go
structure OkGr (M:Seat):Prop where
 t:OkGt M
 k252:Au M 252 UR=true
def ltO (c:Nat→Cl) (i:Nat):Option Nat→Bool
 | none=>true
 | some b=>decide ((c i).pos < (c b).pos)
def Cc (c:Nat→Cl) (a:Int):Nat→Option Nat
 | 0=>none
 | i + 1=>if (c i).par=a∧(c i).co=false∧ltO c i (Cc c a i)=true then some i else Cc c a i
theorem Gi (c:Nat→Cl) (a:Int):∀ i j,Cc c a i=some j→j < i∧(c j).par=a∧(c j).co=false
 | 0,_,h=>by cases h
 | i + 1, j, h => by
   rw [Cc] at h
   split at h
   ·next hc=>cases h;exact ⟨by omega,hc.1,hc.2.1⟩
   ·obtain ⟨h1,h2⟩:=Gi c a i j h
    exact ⟨by omega,h2⟩
def Wq (c:Nat→Cl) (o:Option Nat):V:=match o with
 | some j=>(c j).v
 | none=>Cl.zero.v
abbrev Gs.kidO (G:Gs) (a:Nat):Prop:=∃ j,j < G.n∧(G.c j).par=a∧(G.c j).rs=false
def Gs.rsE (G:Gs) (a:Nat) (t:BitVec 64):Option Int :=
 if G.kidO a then some 44
 else if Gy (G.c a).us (G.c a).at' (CQ G.c (G.c a)) t then some 2
 else if G.l≤CQ G.c (G.c a) + t - (G.c a).at' then none
 else some 44
def Gs.rsB (G:Gs) (a:Nat):Int:=match Cc G.c a G.n with
 | some j=>if (G.c a).st=true then (G.c a).by' else (G.c j).pl
 | none=>(G.c a).by'
def Gs.rsC (G:Gs) (a:Nat):Cl:={ G.c a with rs:=true,co:=(G.c a).st || (Cc G.c a G.n).isSome,by':=G.rsB a }
def Gs.rsv (G:Gs) (a:Nat):Gs:={ G with c:=fun j=>if j=a then G.rsC a else G.c j,b:=fun j=>if j=(G.rsB a).toNat then G.b (G.rsB a).toNat + G.v a else G.b j,k:=G.k - G.v a,gv:=fun j=>if j=a then true else G.gv j }
theorem L3 {M:Seat} (ok:OkGr M) (G:Gs) (w:G.wf) (a:Nat) (ha:a < G.n) (hu:(G.c a).rs=false) (hbd:(G.c a).bond=a) (hgv:G.gv a=false) (hB:∃ p:Nat,p < 8∧G.rsB a=p) (t:BitVec 64) :
 Ag M 252 [.ptr 0 [],.int .i64 a,W t] G.H 4 (Q3 (B7 (G.rsE a t)) ((match G.rsE a t with | none=>G.rsv a | some _=>G).H) 4):=by
 have hOE:=IL ok.t.s G.D G.l G.g G.s G.n G.c (G.c a) t w.hr (Hk w.prs ha)
 have hOS:=J8 ok.t.s G.D G.l G.g G.s G.n G.c (G.c a) t w.hr (Hk w.prs ha)
 have hn:=w.hn
 obtain ⟨p,hp8,hBp⟩:=hB
 have hG:=RI ok.t.s.le G.b G.i G.o G.n G.k G.v G.gv a ha Aa hgv p hp8
 clear w
 generalize hE:G.rsE a t=E
 generalize hX:G.rsv a=X
 unfold Gs.rsE at hE
 unfold Gs.rsv at hX
 unfold Gs.rsC at hX
 rw [hBp,Int.toNat_natCast] at hX
 unfold Gs.rsB at hBp
 obtain ⟨D,l,g,s,n,c,b,ii,o,kk,vv,gv⟩:=G
 dsimp only at *
 have hca:(c a).v=Cl.v ⟨(c a).par,(c a).pos,(c a).val,(c a).pl,(c a).bond,(c a).us,(c a).at',(c a).st,(c a).rs,(c a).co,(c a).by'⟩:=rfl
 generalize hu0:CQ c (c a)=u at *
 have d0:((a:Int) < 0)=False:=eq_false Aa
 have d1:((n:Int)≤(a:Int))=False:=eq_false Aa
 have d2:((a:Int) < (n:Int))=True:=eq_true Aa
 have d3:(0≤(a:Int))=True:=eq_true Aa
 refine Ab ok.k252 rfl fun x hx=>?_
 refine es 2000 ?_;(simp only [UR,T7,Gs.H,Ai,Al,Ac,Ap,Aq,A7,A4,Cl.v,hu,d0,d1,d2,d3,LZ,seval])
 repeat refine sd ?_
 refine An (σ:=Nat) (fun i=>i≤n∧∀ j,j < i→(c j).par=a→(c j).rs=true) (fun i=>fr 128 [(0,.ptr 0 []),(1,.int .i64 a),(2,W t),(6,.nili),(7,.ptr 4 []),(8,.ptr 5 []),(9,.bool (Cc c a i).isSome),(48,.sl 1 [] 0 n 42),(49,.int .i64 n),(50,.int .i64 i)]) (fun i=>[(0,Ai D l g s (.ptr 2 []) (.sl 1 [] 0 n 42)),(1,Ap n c),(2,Aq b ii o (.sl 3 [] 0 n 2) kk),(3,A7 n vv gv),(4,(c a).v),(5,Wq c (Cc c a i))]) (fun _=>6) (fun i=>n - i) 0 ⟨by omega,fun j h=>by omega⟩ ?_ ?_
 ·refine Ao.fr [0,1,2,3,468,516] [] hx AQ Am ?_ ?_
  ·simp only [Cc,Option.isSome,Int.natCast_zero,LY,seval]
  ·simp only [Cc,Wq,Ai,Al,Ac,Ap,Aq,A7,A4,Cl.v,Cl.zero,hu,dg,LY,seval]
 ·intro i ⟨hi,hk⟩
  refine es 2000 ?_
  by_cases hin:i=n
  ·subst hin
   have w0:((i:Int) < (i:Int))=False:=eq_false Aa
   have hno:¬ ∃ j,j < i∧(c j).par=a∧(c j).rs=false:=fun ⟨j,h1,h2,h3⟩=>by rw [hk j h1 h2] at h3;cases h3
   rw [if_neg hno] at hE
   simp only [Cl.v,hu] at hOE hOS
   (simp only [w0,Ai,Al,Ac,Ap,Aq,A7,A4,Cl.v,hu,LZ,seval])
   by_cases h5:Gy (c a).us (c a).at' u t
   ·rw [if_pos h5] at hE
    subst hE
    have hO:=hOE h5
    have zz:=aq7 @Ai.eq_1 @Al.eq_1 @Ac.eq_1 @Cl.v.eq_1 @Ap.eq_1 @dg.eq_1 hu;refine Bw [0,1,2] [0,1] (hO) ?_
    (simp only [AH,Ai,Al,Ac,Cl.v,Ap,seval])
    have zz:=Am2 @B7.eq_1 @B7.eq_2 @dg.eq_1 @Cl.v.eq_1 @Gs.H.eq_1 @Ai.eq_1 @Al.eq_1 @Ac.eq_1 @Ap.eq_1 @Aq.eq_1 @A7.eq_1 @A4.eq_1 hu;exact Bf hx [0,1,2,3] ⟨rfl,rfl,rfl⟩
   rw [if_neg h5] at hE
   have hO:=hOS h5
   by_cases h6:l≤u + t - (c a).at'
   case neg =>
    rw [if_neg h6] at hE
    subst hE
    rw [decide_eq_false h6] at hO
    have zz:=aq7 @Ai.eq_1 @Al.eq_1 @Ac.eq_1 @Cl.v.eq_1 @Ap.eq_1 @dg.eq_1 hu;refine Bw [0,1,2] [0,1] (hO) ?_
    (simp only [AH,Ai,Al,Ac,Cl.v,Ap,seval])
    have zz:=Am2 @B7.eq_1 @B7.eq_2 @dg.eq_1 @Cl.v.eq_1 @Gs.H.eq_1 @Ai.eq_1 @Al.eq_1 @Ac.eq_1 @Ap.eq_1 @Aq.eq_1 @A7.eq_1 @A4.eq_1 hu;exact Bf hx [0,1,2,3] ⟨rfl,rfl,rfl⟩
   rw [if_pos h6] at hE
   subst hE
   rw [decide_eq_true h6] at hO
   generalize hb:Cc c a i=R at *
   have hlR:∀ j,R=some j→j < i:=fun j hj=>(Gi c a i j (hb.trans hj)).1
   clear hb hk hno
   have hpB:∀ st,(c a).st=st→(st=true ∨ R=none→(c a).by'=p)∧∀ j,st=false→R=some j→(c j).pl=p:=by
    rintro st rfl
    cases hst:(c a).st <;> cases R <;> rw [hst] at hBp <;> simp at hBp <;> refine ⟨fun h=>?_,fun j h1 h2=>?_⟩
    all_goals first | exact hBp | (cases h2;exact hBp) | (cases h2;done) | (rcases h with h | h <;> cases h) | cases h1
   have hm:=fun st (h:(c a).st=st)=>(hpB st h).1
   have hm2:=fun st (h:(c a).st=st)=>(hpB st h).2
   clear hpB hBp hOE hOS
   cases hst:(c a).st <;> cases R
   case' false.none=>have hq:=hm _ hst (.inr rfl)
   case' true.none=>have hq:=hm _ hst (.inr rfl)
   case' true.some=>have hq:=hm _ hst (.inl rfl)
   case' false.some j=>have hq:=hm2 _ hst j rfl rfl
   all_goals
    simp only [hst,Bool.or_true,Bool.true_or,Bool.false_or,Option.isSome] at hO hX
    clear hm hm2
    have zz:=XK @Ai.eq_1 @Al.eq_1 @Ac.eq_1 @Cl.v.eq_1 @Ap.eq_1 @dg.eq_1 hu hst;refine Bw [0,1,2] [0,1] (hO) ?_
    (simp only [AH,Ai,Al,Ac,Cl.v,Ap,Wq,Option.isSome,Cl.zero,hq,hbd,d2,d3,hst,seval])
    repeat refine sd ?_
    have zz:=Bb @Aq.eq_1 @A4.eq_1;refine L9 [2,3] [2,3] (hG) ?_
    (simp only [AH,Aq,A4,seval])
    subst hX
    refine Ar.mk hx [0,1,2,3] [] .nili _ 4 Am (by (simp only [CU,seval])) (by simp only [LV,Ah,LY,seval]) ?_ ⟨rfl,rfl,rfl⟩
    simp only [Gs.H,Ai,Al,Ac,Ap,Cl.v,Aq,A7,A4,dg,LY,seval]
    intro j hj
    by_cases h:j=a
    ·subst h
     simp only [if_true,hbd,hst,LY,seval]
    ·simp only [h,if_false,LY,seval]
  ·have w0:((i:Int) < (n:Int))=True:=eq_true Aa
   have w1:(0≤(i:Int))=True:=eq_true Aa
   have z0:IntKind.i64.wrap ((i:Int) + 1)=((i + 1:Nat):Int):=AZ
   have hk':(c i).rs=true→∀ j,j < i + 1→(c j).par=a→(c j).rs=true:=fun h0 j hj hp=>by
    rcases Nat.lt_or_ge j i with h | h
    ·exact hk j h hp
    ·obtain rfl:j=i:=Aa
     exact h0
   by_cases h1:(c i).par=a
   case neg =>
    have hb1:Cc c a (i + 1)=Cc c a i:=by rw [Cc,if_neg (fun h=>h1 h.1)]
    have h1':=eq_false h1
    generalize hR:Cc c a i=R at *
    (simp only [w0,w1,z0,Ai,Al,Ac,Ap,Aq,A7,A4,Cl.v,h1',hu,LZ,seval])
    repeat refine sd ?_
    refine ⟨i + 1,by omega,fun j hj hp=>?_,by omega,?_⟩
    ·rcases Nat.lt_or_ge j i with h | h
     ·exact hk j h hp
     ·obtain rfl:j=i:=Aa
      exact absurd hp h1
    rw [hb1]
    cases R
    all_goals
     refine Ao.fr [0,1,2,3,4,5] [] hx AQ Am ?_ ?_
     ·simp only [Option.isSome,LY,seval]
     ·simp only [Wq,Ai,Al,Ac,Ap,Aq,A7,A4,Cl.v,Cl.zero,hu,dg,LY,seval]
   have h1':=eq_true h1
   cases hrs:(c i).rs with
   | false =>
     have hin2:i < n:=Aa
     rw [if_pos ⟨i,hin2,h1,hrs⟩] at hE
     subst hE
     (simp only [w0,w1,z0,Ai,Al,Ac,Ap,Aq,A7,A4,Cl.v,h1',hrs,hu,LZ,seval])
     repeat refine sd ?_
     have zz:=Am2 @B7.eq_1 @B7.eq_2 @dg.eq_1 @Cl.v.eq_1 @Gs.H.eq_1 @Ai.eq_1 @Al.eq_1 @Ac.eq_1 @Ap.eq_1 @Aq.eq_1 @A7.eq_1 @A4.eq_1 hu;exact Bf hx [0,1,2,3] ⟨rfl,rfl,rfl⟩
   | true =>
     have hk2:=hk' hrs
     cases hco:(c i).co with
     | true =>
       have hb1:Cc c a (i + 1)=Cc c a i:=by rw [Cc,if_neg (fun h=>by have:=h.2.1;rw [hco] at this;cases this)]
       generalize hR:Cc c a i=R at *
       (simp only [w0,w1,z0,Ai,Al,Ac,Ap,Aq,A7,A4,Cl.v,h1',hrs,hco,hu,LZ,seval])
       repeat refine sd ?_
       refine ⟨i + 1,by omega,hk2,by omega,?_⟩
       rw [hb1]
       cases R
       all_goals
        refine Ao.fr [0,1,2,3,4,5] [] hx AQ Am ?_ ?_
        ·simp only [Option.isSome,LY,seval]
        ·simp only [Wq,Ai,Al,Ac,Ap,Aq,A7,A4,Cl.v,Cl.zero,hu,dg,LY,seval]
     | false =>
       have hb0:Cc c a (i + 1)=if ltO c i (Cc c a i)=true then some i else Cc c a i:=by
        rw [Cc]
        by_cases h:ltO c i (Cc c a i)=true
        ·rw [if_pos ⟨h1,hco,h⟩,if_pos h]
        ·rw [if_neg (fun h2=>h h2.2.2),if_neg h]
       generalize hR:Cc c a i=R at *
       cases R with
       | none =>
         rw [ltO,if_pos rfl] at hb0
         (simp only [w0,w1,z0,Ai,Al,Ac,Ap,Aq,A7,A4,Cl.v,h1',hrs,hco,hu,Option.isSome,LZ,seval])
         repeat refine sd ?_
         refine ⟨i + 1,by omega,hk2,by omega,?_⟩
         rw [hb0]
         refine Ao.fr [0,1,2,3,4,5] [] hx AQ Am ?_ ?_
         ·simp only [Option.isSome,LY,seval]
         ·simp only [Wq,Ai,Al,Ac,Ap,Aq,A7,A4,Cl.v,Cl.zero,h1',h1,hrs,hco,hu,dg,LY,seval]
       | some b =>
         by_cases hlt:(c i).pos < (c b).pos
         ·have hlt':=eq_true hlt
          rw [ltO,decide_eq_true hlt,if_pos rfl] at hb0
          (simp only [w0,w1,z0,Ai,Al,Ac,Ap,Aq,A7,A4,Wq,Cl.v,h1',hrs,hco,hu,hlt',Option.isSome,LZ,seval])
          repeat refine sd ?_
          refine ⟨i + 1,by omega,hk2,by omega,?_⟩
          rw [hb0]
          refine Ao.fr [0,1,2,3,4,5] [] hx AQ Am ?_ ?_
          ·simp only [Option.isSome,LY,seval]
          ·simp only [Wq,Ai,Al,Ac,Ap,Aq,A7,A4,Cl.v,Cl.zero,h1',h1,hrs,hco,hu,dg,LY,seval]
         ·have hlt':=eq_false hlt
          rw [ltO,decide_eq_false hlt,if_neg Am] at hb0
          (simp only [w0,w1,z0,Ai,Al,Ac,Ap,Aq,A7,A4,Wq,Cl.v,h1',hrs,hco,hu,hlt',Option.isSome,LZ,seval])
          repeat refine sd ?_
          refine ⟨i + 1,by omega,hk2,by omega,?_⟩
          rw [hb0]
          refine Ao.fr [0,1,2,3,4,5] [] hx AQ Am ?_ ?_
          ·simp only [Option.isSome,LY,seval]
          ·simp only [Wq,Ai,Al,Ac,Ap,Aq,A7,A4,Cl.v,Cl.zero,hu,dg,LY,seval]
def Alb:LC:=(sr [bX 11 3,
 bX 14 6,A1 16 (.mv (.c .nilp)),
 mI 17 0] (.seq (sr [mt 21 0,aI 22 .lss 21 1,mt 23 22,mg 24 23 false 0,A2 25 23 false (.ari .gtr (.t 24) (cI 20)),
  BV 26 23 25,mt 27 26,mg 28 27 false 1,mg 29 27 false 2,⟨(some 30),.call 264 [(.t 28),(.t 29)],(some (27,false))⟩,A2 31 27 false (.un .not (.t 30)),
  BV 32 27 31,mt 33 32,mg 34 33 false 7,A2 35 33 false (.ari .gtr (.t 34) (cU 1099511627776)),
  BV 36 33 35] (.cond (.t 36) (sr [A1 16 (.mv (.c .nilp)),
  mI 17 2] .ret) .skip)) (sr [mt 38 4,mt 39 5,A1 40 (.build (.st (.cons (.int .i64) (.cons (.int .i64) (.cons (.int .i64) (.cons (.int .u64) .nil))))) [(.f 0,1,(cI 3)),(.f 1,1,(.t 39)),(.f 3,1,(cU 1))]),kl 41 263 [(.t 38),(.t 40)],mt 37 41,ee 42 37 0,ee 43 37 1,mt 18 42,mt 19 43] (.seq (sr [mt 44 19,aI 45 .neq 44 0] (.cond (.t 45) (sr [mt 46 19,A1 16 (.mv (.c .nilp)),mt 17 46] .ret) .skip)) (sr [mt 47 0,mt 48 1,mt 49 2,la 50 32 11,mt 51 4,A1 52 (.build (.st (.cons (.int .i64) (.cons (.int .u64) (.cons (.int .u64) (.cons (.ar 32 (.int .u8)) (.cons .slice (.cons .ptr .nil))))))) [(.f 0,1,(.t 47)),(.f 1,1,(.t 48)),(.f 2,1,(.t 49)),(.f 3,32,(.t 50)),(.f 36,1,(.t 51))]),
  bX 53 52,mt 20 53] (.seq (.regd [⟨1,0,mt 55 20⟩,⟨2,1,nc 56 55⟩,⟨3,3,fa 57 35 56⟩,⟨4,7,lb 58 1 57⟩,⟨5,0,la 59 32 14⟩,⟨6,0,mt 60 5⟩,⟨7,0,mt 61 18⟩,⟨8,0,mt 62 7⟩,⟨9,0,mt 63 5⟩,⟨10,496,A1 64 (.build (.st (.cons (.int .i64) (.cons (.int .i64) (.cons (.int .u64) (.cons (.ar 32 (.int .u8)) (.cons (.int .i64) (.cons (.int .i64) (.cons (.int .u64) (.cons (.int .u64) (.cons .bool (.cons .bool (.cons .bool (.cons (.int .i64) .nil))))))))))))) [(.f 0,1,(.c (.int .i64 (-1)))),(.f 2,1,(cU 1)),(.f 3,32,(.t 59)),(.f 35,1,(.t 60)),(.f 36,1,(.t 61)),(.f 38,1,(.t 62)),(.f 42,1,(.t 63))])⟩,⟨11,1008,A1 65 (.bsl 43 1 (.st (.cons (.int .i64) (.cons (.int .i64) (.cons (.int .u64) (.cons (.ar 32 (.int .u8)) (.cons (.int .i64) (.cons (.int .i64) (.cons (.int .u64) (.cons (.int .u64) (.cons .bool (.cons .bool (.cons .bool (.cons (.int .i64) .nil))))))))))))) [(.i 43 0,43,(.t 64))])⟩,⟨12,2047,aP 66 43 104 58 65⟩,⟨0,0,mt 54 20⟩,⟨13,8191,nc 67 54⟩,⟨14,16383,fa 68 35 67⟩,⟨15,32767,sb 1 68 66⟩]) (sr [mt 69 20,mt 16 69,
  mI 17 0] .ret)))))))
def Ak4:LF:=⟨Alb,8,0,70,[.tmp 16,.tmp 17]⟩
def Al0:LC:=(sr [bX 10 3,
 mI 14 0,
 mI 15 0] (sr [mt 23 0,mt 24 1,kl 25 265 [(.t 23),(.t 24)],mt 16 25] (.seq (sr [mt 26 16,aI 27 .neq 26 0] (.cond (.t 27) (sr [mt 28 16,
  mI 14 0,mt 15 28] .ret) .skip)) (sr [mt 29 0,nc 30 29,fa 31 35 30,lb 32 1 31,mt 33 1,ia 34 43 32 33,la 35 43 34,A1 17 (.alloc (.st (.cons (.int .i64) (.cons (.int .i64) (.cons (.int .u64) (.cons (.ar 32 (.int .u8)) (.cons (.int .i64) (.cons (.int .i64) (.cons (.int .u64) (.cons (.int .u64) (.cons .bool (.cons .bool (.cons .bool (.cons (.int .i64) .nil)))))))))))))),sb 43 17 35] (.seq (.seq (.regd [⟨0,0,fa 36 1 17⟩,⟨1,1,lb 37 1 36⟩,⟨2,0,mt 38 0⟩,⟨3,4,nc 39 38⟩,⟨4,12,fa 40 0 39⟩,⟨5,28,lb 41 1 40⟩,⟨6,63,ak 42 .eql 37 41⟩]) (.cond (.t 42) (sr [mI 14 0,
  mI 15 45] .ret) .skip)) (sr [fa 44 2 17,lb 45 1 44,kl 46 266 [(.t 45)],mt 43 46,ee 47 43 0,ee 48 43 1,mt 18 47,mt 16 48] (.seq (sr [mt 49 2] (.cond (.t 49) (.reg [fa 51 2 17,lb 52 1 51,kl 53 267 [(.t 52)],mt 50 53,ee 54 50 0,ee 55 50 1,mt 18 54,mt 16 55]) .skip)) (.seq (sr [mt 56 16,aI 57 .neq 56 0] (.cond (.t 57) (sr [mt 58 16,
  mI 14 0,mt 15 58] .ret) .skip)) (.seq (sr [mt 59 5,fa 60 1 17,lb 61 1 60,aI 62 .add 61 2,
  D0 63 .u64 62,ak 64 .neq 59 63] (.cond (.t 64) (sr [mI 14 0,
  mI 15 40] .ret) .skip)) (.seq (sr [mI 19 0] (.block 0 (.loop (.seq (sr [mt 65 19,mt 66 0,nc 67 66,fa 68 35 67,lb 69 1 68,
  lN 70 0 69,ak 71 .lss 65 70]
 (Dd 71 0)) (.seq (.block 1 (sr [mt 74 0,nc 75 74,fa 76 35 75,lb 77 1 76,mt 78 19,ia 79 43 77 78,la 80 43 79,A1 20 (.alloc (.st (.cons (.int .i64) (.cons (.int .i64) (.cons (.int .u64) (.cons (.ar 32 (.int .u8)) (.cons (.int .i64) (.cons (.int .i64) (.cons (.int .u64) (.cons (.int .u64) (.cons .bool (.cons .bool (.cons .bool (.cons (.int .i64) .nil)))))))))))))),sb 43 20 80] (sr [fa 81 0 20,lb 82 1 81,mt 83 1,ak 84 .eql 82 83,mt 85 84,A2 86 85 true (.fadr 2 (.t 20)),A2 87 85 true (.load false 1 (.t 86)),mg 88 85 true 18,A2 89 85 true (.ari .eql (.t 87) (.t 88)),
  Fq 90 85 89,mt 91 90,A2 92 91 true (.fadr 3 (.t 20)),A2 93 91 true (.load true 32 (.t 92)),A2 94 91 true (.load true 32 (.t 10)),A2 95 91 true (.eq false false (.ar 32 1 false .int) (.t 93) (.t 94)),
  Fq 96 91 95] (.cond (.t 96) (sr [mI 14 0,
  mI 15 41] .ret) .skip)))) (.reg [mt 72 19,aI 73 .add 72 1,mt 19 73])))))) (.seq (.regd [⟨12,0,mt 110 0⟩,⟨13,0,la 111 43 17⟩,⟨14,3,kl 112 269 [(.t 110),(.t 111)]⟩,⟨0,0,mt 98 0⟩,⟨1,8,nc 99 98⟩,⟨2,24,fa 100 1 99⟩,⟨3,56,lb 101 1 100⟩,⟨4,0,mt 102 0⟩,⟨5,128,nc 103 102⟩,⟨6,384,fa 104 2 103⟩,⟨7,896,lb 105 1 104⟩,⟨8,0,fa 106 37 17⟩,⟨9,2048,lb 107 1 106⟩,⟨10,0,fa 108 38 17⟩,⟨11,8192,lb 109 1 108⟩,⟨15,0,mt 113 6⟩,⟨16,65535,kl 114 268 [(.t 101),(.t 105),(.t 107),(.t 109),(.t 112),(.t 113)]⟩,⟨17,131071,mt 97 114⟩,⟨18,262143,ee 115 97 0⟩,⟨19,262143,ee 116 97 1⟩,⟨20,524287,mt 21 115⟩,⟨21,2097151,mt 16 116⟩]) (.seq (sr [mt 117 16,aI 118 .neq 117 0] (.cond (.t 118) (sr [mt 119 16,
  mI 14 0,mt 15 119] .ret) .skip)) (.seq (sr [mt 120 0,nc 121 120,fa 122 35 121,lb 123 1 122,
  lN 124 0 123,aI 125 .eql 124 64] (.cond (.t 125) (sr [mI 14 0,
  mI 15 5] .ret) .skip)) (sr [mt 127 0,nc 128 127,fa 129 36 128,lb 130 1 129,mt 131 4,mt 132 5,A1 133 (.build (.st (.cons (.int .i64) (.cons (.int .i64) (.cons (.int .i64) (.cons (.int .u64) .nil))))) [(.f 0,1,(cI 3)),(.f 1,1,(.t 131)),(.f 3,1,(.t 132))]),kl 134 263 [(.t 130),(.t 133)],mt 126 134,ee 135 126 0,ee 136 126 1,mt 22 135,mt 16 136] (.seq (sr [mt 137 16,aI 138 .neq 137 0] (.cond (.t 138) (sr [mt 139 16,
  mI 14 0,mt 15 139] .ret) .skip)) (.seq (.regd [⟨1,0,mt 141 0⟩,⟨2,1,nc 142 141⟩,⟨3,3,fa 143 35 142⟩,⟨4,7,lb 144 1 143⟩,⟨5,0,mt 145 1⟩,⟨6,0,fa 146 1 17⟩,⟨7,32,lb 147 1 146⟩,⟨8,96,aI 148 .add 147 1⟩,⟨9,0,mt 149 18⟩,⟨10,0,la 150 32 10⟩,⟨11,0,mt 151 4⟩,⟨12,0,mt 152 22⟩,⟨13,0,mt 153 21⟩,⟨14,0,mt 154 6⟩,⟨15,0,mt 155 4⟩,⟨16,32752,A1 156 (.build (.st (.cons (.int .i64) (.cons (.int .i64) (.cons (.int .u64) (.cons (.ar 32 (.int .u8)) (.cons (.int .i64) (.cons (.int .i64) (.cons (.int .u64) (.cons (.int .u64) (.cons .bool (.cons .bool (.cons .bool (.cons (.int .i64) .nil))))))))))))) [(.f 0,1,(.t 145)),(.f 1,1,(.t 148)),(.f 2,1,(.t 149)),(.f 3,32,(.t 150)),(.f 35,1,(.t 151)),(.f 36,1,(.t 152)),(.f 37,1,(.t 153)),(.f 38,1,(.t 154)),(.f 42,1,(.t 155))])⟩,⟨17,65520,A1 157 (.bsl 43 1 (.st (.cons (.int .i64) (.cons (.int .i64) (.cons (.int .u64) (.cons (.ar 32 (.int .u8)) (.cons (.int .i64) (.cons (.int .i64) (.cons (.int .u64) (.cons (.int .u64) (.cons .bool (.cons .bool (.cons .bool (.cons (.int .i64) .nil))))))))))))) [(.i 43 0,43,(.t 156))])⟩,⟨18,131071,aP 158 43 104 144 157⟩,⟨0,0,mt 140 0⟩,⟨19,524287,nc 159 140⟩,⟨20,1048575,fa 160 35 159⟩,⟨21,2097151,sb 1 160 158⟩]) (sr [mt 161 0,nc 162 161,fa 163 35 162,lb 164 1 163,
  lN 165 0 164,aI 166 .sub 165 1,mt 14 166,
  mI 15 0] .ret)))))))))))))))))
def Al9:LF:=⟨Al0,7,0,167,[.tmp 14,.tmp 15]⟩
def Aop:LC:=(sr [aB 6 32,
 aB 7 32,A1 8 (.mv (.c (.bool false))),
 mI 9 0] (sr [mt 16 0,nc 17 16,fa 18 35 17,lb 19 1 18,mt 20 1,ia 21 43 19 20,la 22 43 21,A1 10 (.alloc (.st (.cons (.int .i64) (.cons (.int .i64) (.cons (.int .u64) (.cons (.ar 32 (.int .u8)) (.cons (.int .i64) (.cons (.int .i64) (.cons (.int .u64) (.cons (.int .u64) (.cons .bool (.cons .bool (.cons .bool (.cons (.int .i64) .nil)))))))))))))),sb 43 10 22] (.seq (.regd [⟨0,0,fa 24 2 10⟩,⟨1,1,lb 25 1 24⟩,⟨2,0,mt 26 0⟩,⟨3,4,nc 27 26⟩,⟨4,12,fa 28 0 27⟩,⟨5,28,lb 29 1 28⟩,⟨6,63,kl 30 270 [(.t 25),(.t 29)]⟩,⟨7,127,mt 23 30⟩,⟨8,255,ee 31 23 0⟩,⟨9,255,ee 32 23 1⟩,⟨10,511,mt 11 31⟩,⟨11,2047,mt 12 32⟩]) (.seq (sr [mt 33 2] (.cond (.t 33) (sr [mt 34 0,mt 35 1,mt 36 11,
  aU 37 .add 36 1,kl 38 271 [(.t 34),(.t 35),(.t 37)],mt 13 38] (.seq (sr [mt 39 13,aI 40 .lss 39 0] (.cond (.t 40) (sr [A1 41 (.build (.ar 32 (.int .u8)) []),A1 42 (.build (.ar 32 (.int .u8)) []),sb 32 6 41,sb 32 7 42,A1 8 (.mv (.c (.bool false))),
  mI 9 45] .ret) .skip)) (.seq (.regd [⟨0,0,fa 43 3 10⟩,⟨1,1,la 44 32 43⟩,⟨23,3,sb 32 6 44⟩,⟨2,0,mt 45 0⟩,⟨3,8,nc 46 45⟩,⟨4,24,fa 47 35 46⟩,⟨5,56,lb 48 1 47⟩,⟨6,0,mt 49 13⟩,⟨7,248,ia 50 43 48 49⟩,⟨8,504,fa 51 3 50⟩,⟨9,1016,la 52 32 51⟩,⟨24,2047,sb 32 7 52⟩,⟨10,0,mt 53 0⟩,⟨11,4096,nc 54 53⟩,⟨12,12288,fa 55 35 54⟩,⟨13,28672,lb 56 1 55⟩,⟨14,0,mt 57 13⟩,⟨15,126976,ia 58 43 56 57⟩,⟨16,258048,fa 59 1 58⟩,⟨17,520192,lb 60 1 59⟩,⟨18,0,fa 61 1 10⟩,⟨19,1048576,lb 62 1 61⟩,⟨20,4190208,ak 63 .sub 60 62⟩,⟨21,8384512,aI 64 .rem 63 2⟩,⟨22,16773120,aI 65 .eql 64 0⟩,⟨25,33554431,mt 8 65⟩,⟨26,67108863,mI 9 0⟩]) .ret))) .skip)) (sr [mt 66 0,nc 67 66,fa 68 3 67,la 69 32 68,
  aB 14 32,sb 32 14 69] (.seq (sr [mt 70 11,
  aU 71 .gtr 70 0] (.cond (.t 71) (sr [A1 72 (.build (.ar 32 (.int .u8)) []),sb 32 14 72] (sr [mt 73 0,mt 74 1,mt 75 11,
  aU 76 .sub 75 1,kl 77 271 [(.t 73),(.t 74),(.t 76)],mt 15 77] (sr [mt 78 15,aI 79 .geq 78 0] (.cond (.t 79) (.reg [mt 80 0,nc 81 80,fa 82 35 81,lb 83 1 82,mt 84 15,ia 85 43 83 84,fa 86 3 85,la 87 32 86,sb 32 14 87]) .skip)))) .skip)) (.seq (.regd [⟨0,0,la 88 32 14⟩,⟨3,1,sb 32 6 88⟩,⟨1,0,fa 89 3 10⟩,⟨2,4,la 90 32 89⟩,⟨4,15,sb 32 7 90⟩,⟨5,31,A1 8 (.mv (.c (.bool true)))⟩,⟨6,63,mI 9 0⟩]) .ret)))))))
def Apb:LF:=⟨Aop,3,0,91,[.cell 6 true 32,.cell 7 true 32,.tmp 8,.tmp 9]⟩
def Ama:LC:=(sr [bX 12 5,
 mI 14 0] (sr [mt 21 0,mt 22 1,kl 23 265 [(.t 21),(.t 22)],mt 15 23] (.seq (sr [mt 24 15,aI 25 .neq 24 0] (.cond (.t 25) (sr [mt 26 15,mt 14 26] .ret) .skip)) (sr [mt 27 0,nc 28 27,fa 29 35 28,lb 30 1 29,mt 31 1,ia 32 43 30 31,la 33 43 32,A1 16 (.alloc (.st (.cons (.int .i64) (.cons (.int .i64) (.cons (.int .u64) (.cons (.ar 32 (.int .u8)) (.cons (.int .i64) (.cons (.int .i64) (.cons (.int .u64) (.cons (.int .u64) (.cons .bool (.cons .bool (.cons .bool (.cons (.int .i64) .nil)))))))))))))),sb 43 16 33] (.seq (sr [mt 34 3,aI 35 .lss 34 0,mt 36 35,mg 37 36 false 3,A2 38 36 false (.ari .geq (.t 37) (cI 8)),
  BV 39 36 38] (.cond (.t 39) (sr [mI 14 2] .ret) .skip)) (.seq (.seq (.regd [⟨0,0,fa 40 1 16⟩,⟨1,1,lb 41 1 40⟩,⟨2,0,mt 42 0⟩,⟨3,4,nc 43 42⟩,⟨4,12,fa 44 0 43⟩,⟨5,28,lb 45 1 44⟩,⟨6,63,ak 46 .neq 41 45⟩]) (.cond (.t 46) (sr [mI 14 45] .ret) .skip)) (sr [mt 48 0,mt 49 1,mt 50 2,kl 51 143 [(.t 48),(.t 49),(.t 50)],mt 47 51,ee 52 47 0,ee 53 47 1,ee 54 47 2,ee 55 47 3,
  aB 17 32,
  aB 18 32,sb 32 17 52,sb 32 18 53,mt 19 54,mt 15 55] (.seq (sr [mt 56 15,aI 57 .neq 56 0] (.cond (.t 57) (sr [mt 58 15,mt 14 58] .ret) .skip)) (.seq (sr [fa 59 39 16,lb 60 1 59] (.cond (.t 60) (sr [mI 14 41] .ret) .skip)) (.seq (.regd [⟨4,0,mt 66 0⟩,⟨5,0,la 67 43 16⟩,⟨6,3,kl 68 269 [(.t 66),(.t 67)]⟩,⟨0,0,fa 62 37 16⟩,⟨1,8,lb 63 1 62⟩,⟨2,0,fa 64 38 16⟩,⟨3,32,lb 65 1 64⟩,⟨7,0,mt 69 4⟩,⟨8,255,kl 70 273 [(.t 63),(.t 65),(.t 68),(.t 69)]⟩,⟨9,511,mt 61 70⟩,⟨10,1023,ee 71 61 0⟩,⟨11,1023,ee 72 61 1⟩,⟨12,2047,mt 20 71⟩,⟨13,8191,mt 15 72⟩]) (.seq (sr [mt 73 15,aI 74 .neq 73 0] (.cond (.t 74) (sr [mt 75 15,mt 14 75] .ret) .skip)) (.seq (sr [mt 76 20,mt 77 0,nc 78 77,fa 79 1 78,lb 80 1 79,ak 81 .geq 76 80] (.cond (.t 81) (sr [mI 14 42] .ret) .skip)) (.seq (sr [mt 82 6,aI 83 .neq 82 0] (.cond (.t 83) (sr [mt 84 6,mt 14 84] .ret) .skip)) (.seq (sr [la 85 32 12,la 86 32 18,A1 87 (.eq false false (.ar 32 1 false .int) (.t 85) (.t 86)),mt 88 19,A1 89 (.eq false false .bool (.t 87) (.t 88))] (.cond (.t 89) (sr [mI 14 46] .ret) .skip)) (sr [mt 90 0,nc 91 90,fa 92 35 91,lb 93 1 92,mt 94 1,ia 95 43 93 94,fa 96 39 95,A0 (.store 1 (.t 96) (.c (.bool true)))] (sr [mt 97 0,nc 98 97,fa 99 35 98,lb 100 1 99,mt 101 1,mt 102 3,ia 103 43 100 101,fa 104 42 103,sb 1 104 102] (sr [mI 14 0] .ret)))))))))))))))))
def Al4:LF:=⟨Ama,7,0,105,[.tmp 14]⟩
def An2:LC:=(sr [mI 6 0] (sr [mt 13 0,mt 14 1,kl 15 265 [(.t 13),(.t 14)],mt 7 15] (.seq (sr [mt 16 7,aI 17 .eql 16 43] (.cond (.t 17) (sr [mI 6 41] .ret) .skip)) (.seq (sr [mt 18 7,aI 19 .neq 18 0] (.cond (.t 19) (sr [mt 20 7,mt 6 20] .ret) .skip)) (sr [mt 21 0,nc 22 21,fa 23 35 22,lb 24 1 23,mt 25 1,ia 26 43 24 25,la 27 43 26,A1 8 (.alloc (.st (.cons (.int .i64) (.cons (.int .i64) (.cons (.int .u64) (.cons (.ar 32 (.int .u8)) (.cons (.int .i64) (.cons (.int .i64) (.cons (.int .u64) (.cons (.int .u64) (.cons .bool (.cons .bool (.cons .bool (.cons (.int .i64) .nil)))))))))))))),sb 43 8 27] (sr [A1 9 (.mv (.c (.int .i64 (-1))))] (.seq (sr [mI 10 0] (.block 0 (.loop (.seq (sr [mt 28 10,mt 29 0,nc 30 29,fa 31 35 30,lb 32 1 31,
  lN 33 0 32,ak 34 .lss 28 33]
 (Dd 34 0)) (.seq (.block 1 (sr [mt 37 0,nc 38 37,fa 39 35 38,lb 40 1 39,mt 41 10,ia 42 43 40 41,la 43 43 42,A1 11 (.alloc (.st (.cons (.int .i64) (.cons (.int .i64) (.cons (.int .u64) (.cons (.ar 32 (.int .u8)) (.cons (.int .i64) (.cons (.int .i64) (.cons (.int .u64) (.cons (.int .u64) (.cons .bool (.cons .bool (.cons .bool (.cons (.int .i64) .nil)))))))))))))),sb 43 11 43] (.seq (sr [fa 44 0 11,lb 45 1 44,mt 46 1,ak 47 .neq 45 46] (.cond (.t 47) (.exit 1) .skip)) (.seq (sr [fa 48 40 11,lb 49 1 48,A1 50 (.un .not (.t 49))] (.cond (.t 50) (sr [mI 6 44] .ret) .skip)) (.seq (.regd [⟨0,0,fa 51 41 11⟩,⟨1,1,lb 52 1 51⟩,⟨2,3,A1 53 (.un .not (.t 52))⟩,⟨3,7,mt 54 53⟩,⟨4,15,mg 55 54 true 9⟩,⟨5,31,A2 56 54 true (.ari .lss (.t 55) (cI 0))⟩,⟨6,63,mg 57 54 true 56⟩,⟨7,127,A2 58 57 false (.fadr 2 (.t 11))⟩,⟨8,255,A2 59 57 false (.load false 1 (.t 58))⟩,⟨9,127,mg 60 57 false 0⟩,⟨10,639,A2 61 57 false (.nilc (.t 60))⟩,⟨11,1663,A2 62 57 false (.fadr 35 (.t 61))⟩,⟨12,3711,A2 63 57 false (.load false 1 (.t 62))⟩,⟨13,127,mg 64 57 false 9⟩,⟨14,15999,A2 65 57 false (.isl 43 (.t 63) (.t 64))⟩,⟨15,32383,A2 66 57 false (.fadr 2 (.t 65))⟩,⟨16,65151,A2 67 57 false (.load false 1 (.t 66))⟩,⟨17,131071,A2 68 57 false (.ari .lss (.t 59) (.t 67))⟩,⟨18,262143,A2 69 54 true (.pick (.t 57) (.c (.bool true)) (.t 68))⟩,⟨19,524287,Fq 70 54 69⟩]) (.cond (.t 70) (.reg [mt 71 10,mt 9 71]) .skip)))))) (.reg [mt 35 10,aI 36 .add 35 1,mt 10 36])))))) (.seq (.regd [⟨4,0,mt 77 0⟩,⟨5,0,la 78 43 8⟩,⟨6,3,kl 79 269 [(.t 77),(.t 78)]⟩,⟨0,0,fa 73 37 8⟩,⟨1,8,lb 74 1 73⟩,⟨2,0,fa 75 38 8⟩,⟨3,32,lb 76 1 75⟩,⟨7,0,mt 80 2⟩,⟨8,255,kl 81 273 [(.t 74),(.t 76),(.t 79),(.t 80)]⟩,⟨9,511,mt 72 81⟩,⟨10,1023,ee 82 72 0⟩,⟨11,1023,ee 83 72 1⟩,⟨12,2047,mt 12 82⟩,⟨13,8191,mt 7 83⟩]) (.seq (sr [mt 84 7,aI 85 .neq 84 0] (.cond (.t 85) (sr [mt 86 7,mt 6 86] .ret) .skip)) (.seq (sr [mt 87 12,mt 88 0,nc 89 88,fa 90 1 89,lb 91 1 90,ak 92 .lss 87 91] (.cond (.t 92) (sr [mI 6 44] .ret) .skip)) (sr [fa 93 40 8,A0 (.store 1 (.t 93) (.c (.bool true)))] (sr [fa 94 39 8,lb 95 1 94,mt 96 95,mg 97 96 false 9,A2 98 96 false (.ari .geq (.t 97) (cI 0)),
  BV 99 96 98,fa 100 41 8,sb 1 100 99] (.seq (sr [fa 101 39 8,lb 102 1 101,A1 103 (.un .not (.t 102)),mt 104 103,mg 105 104 true 9,A2 106 104 true (.ari .geq (.t 105) (cI 0)),
  Fq 107 104 106] (.cond (.t 107) (.reg [mt 108 0,nc 109 108,fa 110 35 109,lb 111 1 110,mt 112 9,ia 113 43 111 112,fa 114 35 113,lb 115 1 114,fa 116 42 8,sb 1 116 115]) .skip)) (.seq (.regd [⟨0,0,mt 117 0⟩,⟨1,1,nc 118 117⟩,⟨2,3,fa 119 35 118⟩,⟨3,7,lb 120 1 119⟩,⟨4,0,mt 121 1⟩,⟨5,0,la 122 43 8⟩,⟨6,63,ia 123 43 120 121⟩,⟨7,127,sb 43 123 122⟩]) (.seq (.regd [⟨0,0,mt 125 0⟩,⟨1,1,nc 126 125⟩,⟨2,3,fa 127 36 126⟩,⟨3,7,lb 128 1 127⟩,⟨4,0,fa 129 42 8⟩,⟨5,16,lb 130 1 129⟩,⟨6,0,fa 131 36 8⟩,⟨7,64,lb 132 1 131⟩,⟨8,240,A1 133 (.build (.st (.cons (.int .i64) (.cons (.int .i64) (.cons (.int .i64) (.cons (.int .u64) .nil))))) [(.f 0,1,(cI 4)),(.f 1,1,(.t 130)),(.f 2,1,(.t 132))])⟩,⟨9,511,kl 134 263 [(.t 128),(.t 133)]⟩,⟨10,1023,mt 124 134⟩,⟨11,2047,ee 135 124 0⟩,⟨12,2047,ee 136 124 1⟩,⟨13,8191,mt 7 136⟩]) (sr [mt 137 7,mt 6 137] .ret))))))))))))))))
def Anu:LF:=⟨An2,3,0,138,[.tmp 6]⟩
def Ask:LC:=(sr [mI 2 0] (.seq (sr [mt 3 0,nc 4 3,fa 5 35 4,lb 6 1 5,
  iJ 7 43 6 0,fa 8 40 7,lb 9 1 8,A1 10 (.un .not (.t 9))] (.cond (.t 10) (sr [mI 2 0] .ret) .skip)) (.seq (sr [mt 11 0,nc 12 11,fa 13 35 12,lb 14 1 13,
  iJ 15 43 14 0,fa 16 41 15,lb 17 1 16] (.cond (.t 17) (sr [mI 2 2] .ret) .skip)) (sr [mI 2 1] .ret))))
def Ar3:LF:=⟨Ask,1,0,18,[.tmp 2]⟩
def Apr:LC:=(sr [mI 4 0] (.seq (sr [mt 5 1,aI 6 .lss 5 0,mt 7 6,mg 8 7 false 1,mg 9 7 false 0,A2 10 7 false (.nilc (.t 9)),A2 11 7 false (.fadr 35 (.t 10)),A2 12 7 false (.load false 1 (.t 11)),A2 13 7 false (.len 0 (.t 12)),A2 14 7 false (.ari .geq (.t 8) (.t 13)),
  BV 15 7 14] (.cond (.t 15) (sr [mI 4 4] .ret) .skip)) (.seq (sr [mt 16 0,nc 17 16,fa 18 35 17,lb 19 1 18,mt 20 1,ia 21 43 19 20,fa 22 40 21,lb 23 1 22] (.cond (.t 23) (sr [mI 4 43] .ret) .skip)) (sr [mI 4 0] .ret))))
def Apj:LF:=⟨Apr,2,0,24,[.tmp 4]⟩
def Aqa:LC:=(sr [bX 3 1,
 mU 4 0] (.seq (sr [fa 5 0 3,lb 6 1 5,aI 7 .lss 6 0] (.cond (.t 7) (sr [mU 4 0] .ret) .skip)) (.seq (.regd [⟨0,0,mt 8 0⟩,⟨1,1,nc 9 8⟩,⟨2,3,fa 10 35 9⟩,⟨3,7,lb 11 1 10⟩,⟨4,0,fa 12 0 3⟩,⟨5,16,lb 13 1 12⟩,⟨6,63,ia 14 43 11 13⟩,⟨7,127,fa 15 37 14⟩,⟨8,255,lb 16 1 15⟩,⟨9,511,mt 4 16⟩]) .ret)))
def Aqz:LF:=⟨Aqa,2,0,17,[.tmp 4]⟩
def Ast:LC:=(sr [mI 6 0] (.seq (.block 0 (.loop (.seq (sr [mt 9 1,aI 10 .geq 9 0]
 (Dd 10 0)) (.block 1 (.seq (.regd [⟨0,0,mt 12 0⟩,⟨1,1,nc 13 12⟩,⟨2,3,fa 14 35 13⟩,⟨3,7,lb 15 1 14⟩,⟨4,0,mt 16 1⟩,⟨5,31,ia 17 43 15 16⟩,⟨6,63,fa 18 2 17⟩,⟨7,127,lb 19 1 18⟩,⟨8,0,mt 20 0⟩,⟨9,256,nc 21 20⟩,⟨10,768,fa 22 0 21⟩,⟨11,1792,lb 23 1 22⟩,⟨12,4095,kl 24 270 [(.t 19),(.t 23)]⟩,⟨13,8191,mt 11 24⟩,⟨14,16383,ee 25 11 0⟩,⟨15,16383,ee 26 11 1⟩,⟨16,32767,mt 7 25⟩,⟨17,131071,mt 8 26⟩]) (.seq (sr [mt 27 8,aI 28 .eql 27 0,mt 29 28,mg 30 29 true 7,mg 31 29 true 2,A2 32 29 true (.ari .eql (.t 30) (.t 31)),
  Fq 33 29 32] (.cond (.t 33) (sr [mt 34 1,mt 6 34] .ret) .skip)) (.reg [mt 35 0,nc 36 35,fa 37 35 36,lb 38 1 37,mt 39 1,ia 40 43 38 39,fa 41 0 40,lb 42 1 41,mt 1 42]))))))) (sr [A1 6 (.mv (.c (.int .i64 (-1))))] .ret)))
def Arr:LF:=⟨Ast,3,0,43,[.tmp 6]⟩
end Mv
