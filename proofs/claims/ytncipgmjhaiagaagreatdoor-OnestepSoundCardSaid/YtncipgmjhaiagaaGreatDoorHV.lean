/- A part. -/
import Derived.Test.YtncipgmjhaiagaaGreatDoorHU
import Derived.KernelRfl
import Derived.Test.YtncipgmjhaiagaaGreatDoorChecked
import Derived.WalkKit
import Derived.LaidEql
import Derived.Stop.Asserts
import Derived.RowKitTokens
import Derived.Carry
import Derived.Lib.LaidTab
import Derived.Deep.SlicePairs
import Derived.Test.YtncipgmjhaiagaaGreatDoorRows
set_option linter.all false
set_option maxRecDepth 200000
set_option maxHeartbeats 64000000
namespace Mv
open Go
structure OkSn (M:Seat):Prop where
 at_:OkAt M
 f:OkF15 M
 rv:OkRV M
 sp:OkSp M
 k22:Al M 22 f22=true
 is:∀ a b:Int,Af M 63 [.ifc 74 (.int .i64 a),.ifc 74 (.int .i64 b)] [] 0 (Q3 (.bool (decide (a=b))) [] 0)
theorem As9 (c:Ck) (a:BitVec 64) (e:Int) (h:(Ix.rd c a).2.1=some e):e=3 ∨ e=31:=by
 obtain ⟨root,l,pre⟩:=c
 cases l with
 | nil=>have h:some (3:Int)=some e:=h;injection h with h;exact .inl h.symm
 | cons p l =>
   have h:(if ¬ p.p.length=13 then some (3:Int) else if BZ a.toNat (B5 p.v) p.p 13=root then none else some 31)=some e:=h
   split at h
   ·injection h with h;exact .inl h.symm
   ·split at h
    ·cases h
    ·injection h with h;exact .inr h.symm
theorem Atl (c:Ck) (a v:BitVec 64) (e:Int) (h:(Ix.wr c a v).1=some e):e=3 ∨ e=31:=by
 obtain ⟨root,l,pre⟩:=c
 cases l with
 | nil=>have h:some (3:Int)=some e:=h;injection h with h;exact .inl h.symm
 | cons p l =>
   have q:Ix.wr ⟨root,p :: l,pre⟩ a v=if ¬ p.p.length=13 then (some 3,⟨root,l,pre⟩) else if BZ a.toNat (B5 p.v) p.p 13=root then (none,⟨BZ a.toNat (B5 v) p.p 13,l,pre⟩) else (some 31,⟨root,l,pre⟩):=rfl
   rw [q] at h
   split at h
   ·injection h with h;exact .inl h.symm
   ·split at h
    ·cases h
    ·injection h with h;exact .inr h.symm
theorem Atk (a:BitVec 64):∀ (n i:Nat) (s:Ck) (l:List (BitVec 64)) (e:Int),(Jy Ix a n i s l).1=some e→e=3 ∨ e=31
 | 0,i,s,l,e,h=>by cases h
 | n + 1, i, s, l, e, h => by
   rw [Jy] at h
   cases he:(Ix.rd s (a + BitVec.ofNat 64 i)).2.1 with
   | some e'=>rw [he] at h;injection h with h;subst h;exact As9 _ _ _ he
   | none=>rw [he] at h;exact Atk a n (i + 1) _ _ e h
theorem Atn (a:BitVec 64) (f:Nat→BitVec 64):∀ (n i:Nat) (s:Ck) (e:Int),(Ph Ix a f n i s).1=some e→e=3 ∨ e=31
 | 0,i,s,e,h=>by cases h
 | n + 1, i, s, e, h => by
   rw [Ph] at h
   cases he:(Ix.wr s (a + BitVec.ofNat 64 i) (f i)).1 with
   | some e'=>rw [he] at h;injection h with h;subst h;exact Atl _ _ _ _ he
   | none=>rw [he] at h;exact Atn a f n (i + 1) _ e h
theorem As0 (h:Hd) (s:Ck) (to:BitVec 64) (t:Nat) (p:Nat→BitVec 8) (e:Int) (he:(GL Ix h s to t p).2.1=some e):e=3 ∨ e=31:=by
 have:=Atn to (Vh p) t 0 s e
 unfold GL at he
 generalize Ph Ix to (Vh p) t 0 s=R at *
 obtain ⟨r,s'⟩:=R
 cases r with
 | none=>cases he
 | some r=>exact this he
theorem Ato (op:Nat) (h:Hd) (s:Ck) (a b:BitVec 64) (e:Int) (he:(MX Ix op h s a b).2.1=some e):e=3 ∨ e=31:=by
 unfold MX at he
 by_cases hc:(wi a (if op=35 then 4#64 else 8#64) && wi b (if op=35 then 8#64 else 4#64))=false
 ·rw [if_pos hc] at he;cases he
 ·rw [if_neg hc] at he
  have:=Atk a (if op=35 then 4 else 8) 0 s [] e
  generalize Jy Ix a (if op=35 then 4 else 8) 0 s []=R at *
  obtain ⟨r,s',l⟩:=R
  cases r with
  | some r=>exact this he
  | none =>
    dsimp only at he
    by_cases h34:op=34
    ·rw [if_pos h34] at he;exact As0 _ _ _ _ _ _ he
    ·rw [if_neg h34] at he
     unfold QC at he
     have hp:Ix.pi s' (Dg.mk' (CS l))=if B9 s'.pre.at=Dg.mk' (CS l) then (s'.pre,none,s') else (Pr.zero,some 31,s'):=rfl
     rw [hp] at he
     by_cases hd:B9 s'.pre.at=Dg.mk' (CS l)
     ·rw [if_pos hd] at he;exact As0 _ _ _ _ _ _ he
     ·rw [if_neg hd] at he;injection he with he;exact .inr he.symm
theorem Atx (h:Hd) (s:Ck) (e:Int) (he:(nx Ix h s).2.1=some e):e=3 ∨ e=31:=by
 unfold nx at he
 cases hr:(Ix.rd s h.pc).2.1 with
 | some r=>rw [hr] at he;injection he with he;subst he;exact As9 _ _ _ hr
 | none =>
   rw [hr] at he
   dsimp only at he
   unfold Of at he
   repeat' split at he
   all_goals first
    | exact As9 _ _ _ he
    | exact Atl _ _ _ _ he
    | exact Ato _ _ _ _ _ _ he
    | cases he
theorem As8 (c:Ck) (h:Hd) (e:Int) (he:(YJ c h).2=some e):(e=3 ∨ e=31)∧(YJ c h).1=Dg.zero:=by
 unfold YJ at *
 split at he
 ·cases he
 ·rename_i hn
  rw [if_neg hn]
  injection he with he
  exact ⟨.inl he.symm,rfl⟩
theorem Atw (claim root:Dg) (h:Hd) (l:List Pf) (pre:Pr) (e:Int) (he:(vfy claim root h l pre).2=some e):(e=3 ∨ e=31)∧(vfy claim root h l pre).1=Dg.zero:=by
 unfold vfy at *
 by_cases h1:¬ B2 root (DV h.g h.pc h.hl h.xt)=claim
 ·rw [if_pos h1] at he ⊢
  injection he with he
  exact ⟨.inr he.symm,rfl⟩
 rw [if_neg h1] at he ⊢
 by_cases h2:h.hl=true
 ·rw [if_pos h2] at he ⊢;exact As8 _ _ _ he
 rw [if_neg h2] at he ⊢
 by_cases h3:8192#64≤h.pc
 ·rw [if_pos h3] at he ⊢;exact As8 _ _ _ he
 rw [if_neg h3] at he ⊢
 have hn:=Atx h ⟨root,l,pre⟩
 generalize nx Ix h ⟨root,l,pre⟩=R at *
 obtain ⟨h1,r,c1⟩:=R
 cases r with
 | some r=>injection he with he;exact ⟨hn e (by rw [he]),rfl⟩
 | none=>exact As8 _ _ _ he
def sdL:LC:=(sr [ak 59 .lss 58 57] (.seq (cXx 59 0) (.seq (.block 1 (sr [mt 60 58,ia 61 4 56 58,la 62 4 61,A1 19 (.alloc (.st (.cons (.int .i64) (.cons (.int .i64) (.cons (.int .i64) (.cons (.int .u64) .nil)))))),mt 18 60,sb 4 19 62] (.seq (sr [mt 63 18,aI 64 .geq 63 4] (.cond (.t 64) (.exit 0) .skip)) (.reg [la 65 4 19,la 66 116 14,kl 67 99 [(.t 65),(.t 66)],sb 116 14 67])))) (.reg [aI 68 .add 58 1,mt 58 68]))))
def sdT:LC:=(sr [mt 69 11,mt 70 12,kl 71 70 [(.t 69),(.t 70)]] (sr [mt 73 11,kl 74 54 [(.t 73)],mt 72 74,ee 75 72 0,ee 76 72 1,
  aB 20 32,sb 32 20 75,mt 21 76] (sr [la 78 32 16,la 79 116 14,kl 80 98 [(.t 78),(.t 79)],mt 77 80,ee 81 77 0,ee 82 77 1,
  aB 22 32,sb 32 22 81,mt 15 82] (.seq (sr [mt 83 17,A1 84 (.eq true true (.iface [74]) (.t 83) (.c .nili)),mt 85 84,mg 86 85 false 21,A2 87 85 false (.eq true true (.iface [74]) (.t 86) (.c .nili)),
  pKt 88 85 87] (.cond (.t 88) (sr [A1 10 (.mv (.c (.bool false)))] .ret) .skip)) (.seq (sr [mt 89 15,A1 90 (.eq true true (.iface [74]) (.t 89) (.c .nili))] (.cond (.t 90) (sr [mt 91 15,A1 92 (.mkif 74 (cI 31)),kl 93 63 [(.t 91),(.t 92)],mt 94 93,mg 95 94 false 15,A2 96 94 false (.mkif 74 (cI 3)),⟨(some 97),.call 63 [(.t 95),(.t 96)],(some (94,false))⟩,
  pKt 98 94 97,mt 99 98,A2 100 99 true (.load true 32 (.t 22)),A2 101 99 true (.build (.ar 32 (.int .u8)) []),A2 102 99 true (.eq false false (.ar 32 1 false .int) (.t 100) (.t 101)),
  pKf 103 99 102,mt 10 103] .ret) .skip)) (sr [la 105 32 16,la 106 116 14,kl 107 100 [(.t 105),(.t 106)],mt 104 107,ee 108 104 0,ee 109 104 1,
  aB 23 32,sb 32 23 108,mt 24 109] (sr [la 110 32 22,la 111 32 20,A1 112 (.eq false false (.ar 32 1 false .int) (.t 110) (.t 111)),mt 113 112,mg 114 113 false 24,A2 115 113 false (.ari .eql (.t 114) (cI 0)),mg 116 113 false 115,A2 117 116 true (.load true 32 (.t 23)),A2 118 116 true (.load true 32 (.t 22)),A2 119 116 true (.eq false false (.ar 32 1 false .int) (.t 117) (.t 118)),A2 120 113 false (.pick (.t 116) (.t 119) (.c (.bool false))),
  pKt 121 113 120,mt 10 121] .ret)))))))
theorem Auw {M:Seat} (ok:OkSn M) (s s':SM) (hst:S7 M s s') (C root:Dg) (h:Hd) (l:List Pf) (pre:Pr) (hf:Few 100 l) {x:Ctx} (hx:x.k=0) :
 Bl M x (Aq M x [RVr.tmp 10] fun r H' k'=>r = .bool true∧H'=[]∧k'=0) [.code sdT] 9 (fr 122 [(11,.ptr 5 []),(12,.ptr 0 []),(14,.ptr 7 []),(16,.ptr 8 []),(17,.nili)]) (ZJ s ++ [(7,Vf root h l pre),(8,dg C)]):=by
 have hFv:∀ m:Mc,m.v=mach m.f m.g m.pc m.hl m.xt:=fun _=>rfl
 have hO':Af M 54 [.imm (mach s'.m.f s'.m.g s'.m.pc s'.m.hl s'.m.xt)] [] 0 (Q3 (Ao (dg s'.m.com) .nili) [] 0):=Sv ok.f.o.q.okA ok.f.o.d s'.m.f s'.m.g s'.m.pc s'.m.hl s'.m.xt
 have hV:=OT ok.f.o C root h l pre
 have hVe:=Atw C root h l pre
 have hVd:=fun d=>Auj ok.rv C root h l (Nat.le_trans hf.1 Ak) (Aui hf) pre d
 generalize vfy C root h l pre=Z at *
 obtain ⟨d,e⟩:=Z
 have zq:V.ar 1 32 (fun _=>B 0#8)=dg Dg.zero:=by simp only [dg,Dg.at_zero];rfl
 obtain ⟨g1,pc1,hl1,xt1⟩:=h
 simp only [Vf,Hd.v,AU] at hV hVd ⊢
 obtain ⟨w,sl,nn,qq,⟨f,g,pc,hl,xt⟩⟩:=s
 refine es 2000 ?_
 by_cases hz:nn=0
 all_goals
  first | rw [show ZJ ⟨w,sl,nn,qq,⟨f,g,pc,hl,xt⟩⟩=Nh ⟨w,sl,nn,qq,⟨f,g,pc,hl,xt⟩⟩ from if_pos hz] | rw [show ZJ ⟨w,sl,nn,qq,⟨f,g,pc,hl,xt⟩⟩=Sh 6 ⟨w,sl,nn,qq,⟨f,g,pc,hl,xt⟩⟩ from if_neg hz]
  (simp only [sdT,Qg,hFv,LZ,seval])
  rcases hst.1 with ⟨h,hw⟩ | ⟨h0,h1',h6⟩ | ⟨h0,h1',h62⟩ | ⟨h0,h1',h6⟩ | ⟨h0,h1',h62⟩
  all_goals try (dsimp only at h0;exact absurd h0 Aa)
  all_goals first
   | (have hm : Af M 70 [.ptr 0 [], .ptr 1 []] [(0, (⟨f, g, pc, hl, xt⟩ : Mc).v)] 2 _ := h
      rw [hFv] at hm
      clear hw
      (have zz:=aq2 @mach.eq_1 hFv;refine JO [5,0] [5] (hm) ?_))
   | (first | have hm := h6 | have hm := h62
      simp only [Nh,Sh,hFv] at hm
      first
      | (have hm : Af M 70 [.ptr 5 [], .ptr 0 []] _ 6 _ := hm
         (have zz:=aq3 @Qg hFv GM;refine Fl [0,1,2,3,4,5] (hm) ?_))
      | (have hm : Af M 70 [.ptr 5 [], .ptr 0 []] _ 7 _ := hm
         (have zz:=aq3 @Qg hFv GM;refine Fl [0,1,2,3,4,5,6] (hm) ?_)))
  all_goals
   (simp only [Qg,hFv,AR,BA,seval])
   have zz:=aq2 @mach.eq_1 @dg.eq_1;refine CI (hO') ?_
   (simp only [Gw,seval])
   cases e with
   | some e =>
     have zz:=aq3 @dg.eq_1 Mt @Av;refine CI (hV) ?_
     obtain ⟨he,hd⟩:=hVe e rfl
     have hd:d=Dg.zero:=hd
     subst hd
     rcases he with rfl | rfl
     all_goals
      (simp only [LW,Av,seval])
      first | refine Ah (ok.is 31 31) ?_ | refine Ah (ok.is 3 31) ?_
      (simp only [decide_true,show (3:Int)=31 ↔ False by decide,zq,LZ,seval])
      first
      | (refine Ah (ok.is 3 3) ?_
         (simp only [decide_true,zq,LZ,seval]))
      | skip
      repeat refine sd ?_
      exact Aq.mkZ hx [] ⟨rfl,rfl,rfl⟩
   | none =>
     have zz:=aq3 @dg.eq_1 Mt @Bz;refine CI (hV) ?_
     (simp only [LW,Bz,seval])
     have zz:=aq2 @dg.eq_1 Mt;refine CI (hVd d rfl) ?_
     by_cases hq:d=s'.m.com
     all_goals
      (simp only [Gw,hq,seval])
      repeat refine sd ?_
      exact Aq.mkZ hx [] ⟨rfl,rfl,rfl⟩
variable {M:Seat}
theorem Auu (ok:OkSn M) (s s':SM) (hst:S7 M s s') (C root:Dg) (h:Hd) (l:List Pf) (pre:Pr) (hf:Few 13 l) (ns:Nat) (hns:ns < 9223372036854775808) (sf:Nat→Spo) {x:Ctx} (hx:x.k=0) {A:List V} {H:Hp} {N:Nat}
 (hw:Aj M x A H N (fr 122 [(11,.ptr 5 []),(12,.ptr 0 []),(14,.ptr 7 []),(16,.ptr 8 []),(17,.nili),(56,.lst 4 ns fun i=>Auy (sf i)),(57,.int .i64 ns),(58,.int .i64 (0:Nat))]) (ZJ s ++ [(7,Vf root h l pre),(8,dg C)]) 9) :
 Gz M x (Aq M x [RVr.tmp 10] fun r H' k'=>r = .bool true∧H'=[]∧k'=0) sdL [.blk 0,.code sdT] A H N:=by
 have hFv:∀ m:Mc,m.v=mach m.f m.g m.pc m.hl m.xt:=fun _=>rfl
 have hT:=@Auw M ok s s' hst C
 clear hst
 refine Ag (σ:=Nat × Dg × Hd × List Pf × Pr) (fun t=>(t.1≤ns∧t.1≤4)∧Few (13 + t.1) t.2.2.2.1) (fun t=>fr 122 [(11,.ptr 5 []),(12,.ptr 0 []),(14,.ptr 7 []),(16,.ptr 8 []),(17,.nili),(56,.lst 4 ns fun i=>Auy (sf i)),(57,.int .i64 ns),(58,.int .i64 t.1)])
  (fun t=>ZJ s ++ [(7,Vf t.2.1 t.2.2.1 t.2.2.2.1 t.2.2.2.2),(8,dg C)]) (fun _=>9) (fun t=>ns - t.1) (0,root,h,l,pre) ⟨⟨by omega,by omega⟩,hf⟩ hw ?_
 clear hw hf
 rintro ⟨i,root,h,l,pre⟩ ⟨⟨h1,h4⟩,hf⟩
 dsimp only at h1 h4 hf ⊢
 have hT:=fun hf'=>@hT root h l pre hf' x hx
 have w0:IntKind.i64.wrap ((i:Int) + 1)=((i + 1:Nat):Int):=A9
 obtain ⟨root',h',l',pre',hf',hS⟩:=Auk ok.sp (sf i) root h l pre (13 + i) Aa hf
 obtain ⟨g1,pc1,hl1,xt1⟩:=h
 obtain ⟨g2,pc2,hl2,xt2⟩:=h'
 obtain ⟨w,sl,nn,qq,⟨f,g,pc,hl,xt⟩⟩:=s
 by_cases hin:i=ns
 ·have d0:((i:Int) < (ns:Int))=False:=eq_false Aa
  by_cases hz:nn=0
  all_goals
   first | rw [show ZJ ⟨w,sl,nn,qq,⟨f,g,pc,hl,xt⟩⟩=Nh ⟨w,sl,nn,qq,⟨f,g,pc,hl,xt⟩⟩ from if_pos hz] at hT ⊢ | rw [show ZJ ⟨w,sl,nn,qq,⟨f,g,pc,hl,xt⟩⟩=Sh 6 ⟨w,sl,nn,qq,⟨f,g,pc,hl,xt⟩⟩ from if_neg hz] at hT ⊢
   refine es 5 ?_
   (simp only [sdL,d0,LZ,seval])
   refine Bl.weak _ _ _ ?_ (hT ⟨by have:=hf.1;omega,hf.2⟩)
   refine Aj.fr [0,1,2,3,4,5,6,7,8] [] hx Ax Ak ?_ ?_
   ·simp only [LY,seval]
   ·simp only [Qg,hFv,Vf,Hd.v,AU,Ik,Ca,Vl,At,seval]
 ·have d0:((i:Int) < (ns:Int))=True:=eq_true Aa
  have d1:(i < ns)=True:=eq_true Aa
  by_cases h44:i=4
  ·have d4:(4≤(i:Int))=True:=eq_true Aa
   by_cases hz:nn=0
   all_goals
    first | rw [show ZJ ⟨w,sl,nn,qq,⟨f,g,pc,hl,xt⟩⟩=Nh ⟨w,sl,nn,qq,⟨f,g,pc,hl,xt⟩⟩ from if_pos hz] at hT ⊢ | rw [show ZJ ⟨w,sl,nn,qq,⟨f,g,pc,hl,xt⟩⟩=Sh 6 ⟨w,sl,nn,qq,⟨f,g,pc,hl,xt⟩⟩ from if_neg hz] at hT ⊢
    refine es 14 ?_
    (simp only [sdL,Qg,hFv,Auy,spK,d0,d1,d4,LZ,seval])
    refine ⟨by omega,?_⟩
    refine Bl.weak _ _ _ ?_ (hT ⟨by have:=hf.1;omega,hf.2⟩)
    refine Aj.fr [0,1,2,3,4,5,6,7,8] [] hx Ax Ak ?_ ?_
    ·simp only [LY,seval]
    ·simp only [Qg,hFv,Vf,Hd.v,AU,Ik,Ca,Vl,At,seval]
  ·have d4:(4≤(i:Int))=False:=eq_false Aa
   simp only [Auy,spK,Vf,Hd.v,AU] at hS
   by_cases hz:nn=0
   all_goals
    first | rw [show ZJ ⟨w,sl,nn,qq,⟨f,g,pc,hl,xt⟩⟩=Nh ⟨w,sl,nn,qq,⟨f,g,pc,hl,xt⟩⟩ from if_pos hz] | rw [show ZJ ⟨w,sl,nn,qq,⟨f,g,pc,hl,xt⟩⟩=Sh 6 ⟨w,sl,nn,qq,⟨f,g,pc,hl,xt⟩⟩ from if_neg hz]
    refine es 2000 ?_
    (simp only [sdL,Qg,hFv,Auy,spK,Vf,Hd.v,G4,d0,d1,d4,seval])
    repeat refine sd ?_
    have zz:=aq5 @dg.eq_1 Mt @Vf.eq_1 @Hd.v.eq_1 @AU.eq_1;refine IJ [] [] (hS) ?_
    (simp only [w0,H3,Vf,Hd.v,AU,BA,seval])
    refine ⟨(i + 1,root',⟨g2,pc2,hl2,xt2⟩,l',pre'),by dsimp only;omega,by dsimp only;omega,hf',by dsimp only;omega,?_⟩
    dsimp only
    refine Aj.fr [0,1,2,3,4,5,6,7,8] [] hx Ax Ak ?_ ?_
    ·simp only [LY,seval]
    ·simp only [Qg,hFv,Vf,Hd.v,AU,Ik,Ca,Vl,At,seval]
theorem Auv (ok:OkSn M) (hne:¬ LE.com=D2.com) (v rv pv:V) (hvv:∀ H m z,Bd H m z v v) (hrr:∀ H m z,Bd H m z rv rv) (hpp:∀ H m z,Bd H m z pv pv) (k:Int) (s:SM) (dmm:Mc) (s':SM) (hst:S7 M s s') (ns:Nat) (hns:ns < 9223372036854775808) (sf:Nat→Spo) (sv:V) (hsv:sv=(.lst 4 ns fun i=>Auy (sf i)) ∨ (sv = .nils∧ns=0))
 (hA:Af M 95 [v,rv,pv,.int .i64 k] [] 0 (Q3 (BD (.ptr 5 []) (.ptr 0 []) (.ptr 7 [])) (atH s dmm) 14)) :
 Af M 22 [v,rv,pv,.int .i64 k,sv] [] 0 (Q3 (.bool true) [] 0):=by
 have hF:=HW ok.f hne
 have hFv:∀ m:Mc,m.v=mach m.f m.g m.pc m.hl m.xt:=fun _=>rfl
 have hO:Af M 54 [.imm (mach s.m.f s.m.g s.m.pc s.m.hl s.m.xt)] [] 0 (Q3 (Ao (dg s.m.com) .nili) [] 0):=Sv ok.f.o.q.okA ok.f.o.d s.m.f s.m.g s.m.pc s.m.hl s.m.xt
 have hPN:=Mz ok.f.o s.m s.w.pres 0
 have hPS:=UY ok.f.o s.m s.w.pres s.n
 have he1:=Ari s.w.pres s.m
 have hw0:=XA s.w.pres s.m
 have hsl:=@Auu M ok s s' hst s.m.com
 generalize s.m.com=C at *
 clear hst
 generalize Ei s.w.pres s.m=R at *
 obtain ⟨e,L,P⟩:=R
 obtain ⟨w,sl,nn,qq,⟨f,g,pc,hl,xt⟩⟩:=s
 dsimp only at hPN hPS he1 hw0 hO
 have hf:Few 13 L:=⟨hw0.2.1,fun p hp=>Nat.le_of_eq (hw0.2.2.1 p hp)⟩
 clear hw0
 rw [atH] at hA
 refine Ac ok.k22 rfl fun x hx=>?_
 rcases hsv with rfl | ⟨rfl,rfl⟩
 all_goals by_cases hz:nn=0
 all_goals
  first | rw [show ZJ ⟨w,sl,nn,qq,⟨f,g,pc,hl,xt⟩⟩=Nh ⟨w,sl,nn,qq,⟨f,g,pc,hl,xt⟩⟩ from if_pos hz] at hA hsl | rw [show ZJ ⟨w,sl,nn,qq,⟨f,g,pc,hl,xt⟩⟩=Sh 6 ⟨w,sl,nn,qq,⟨f,g,pc,hl,xt⟩⟩ from if_neg hz] at hA hsl
  refine es 2000 ?_;(simp only [f22,c22,LZ,seval])
  have zz:=aq7 SB hFv @BD.eq_1 GM hvv hrr hpp;refine El (hA) ?_
  (simp only [Qg,hFv,dm,Fj,BD,AR,LM,seval])
  refine Ah (hF) ?_
  (simp only [Qg,hFv,dm,Fj,BD,LM,seval])
  cases e with
  | some e =>
    obtain ⟨h14,-⟩:=he1 e rfl
    subst h14
    simp only [Lbm] at hPN hPS
    first
    | (have zz:=aq6 @EA.eq_1 hFv @mach.eq_1 @Ao.eq_1 Mt @Av;refine IJ [85,80,81,82,84] [85,80,81] (hPN) ?_)
    | (have zz:=aq6 @EA.eq_1 hFv @mach.eq_1 @Ao.eq_1 Mt @Av;refine IJ [85,80,81,82,84,86] [85,80,81] (hPS) ?_)
    (simp only [EA,hFv,mach,LW,Av,seval])
    refine Ah (ok.is 14 14) ?_
    (simp only [decide_true,LZ,seval])
    exact Aq.mkZ hx [] ⟨rfl,rfl,rfl⟩
  | none =>
    simp only [Lbm] at hPN hPS
    first
    | (have zz:=aq6 @EA.eq_1 hFv @mach.eq_1 @Ao.eq_1 Mt @Bz;refine IJ [85,80,81,82,84] [85,80,81] (hPN) ?_)
    | (have zz:=aq6 @EA.eq_1 hFv @mach.eq_1 @Ao.eq_1 Mt @Bz;refine IJ [85,80,81,82,84,86] [85,80,81] (hPS) ?_)
    (simp only [EA,hFv,mach,LW,Bz,seval])
    have zz:=aq2 @mach.eq_1 @dg.eq_1;refine CI (hO) ?_
    (simp only [Cb,seval])
    first | refine hsl (Bm f 13 0) ⟨g,pc,hl,xt⟩ L P hf ns hns sf hx ?_ | refine hsl (Bm f 13 0) ⟨g,pc,hl,xt⟩ L P hf 0 Ak sf hx ?_
    first | rw [show ZJ ⟨w,sl,nn,qq,⟨f,g,pc,hl,xt⟩⟩=Nh ⟨w,sl,nn,qq,⟨f,g,pc,hl,xt⟩⟩ from if_pos hz] | rw [show ZJ ⟨w,sl,nn,qq,⟨f,g,pc,hl,xt⟩⟩=Sh 6 ⟨w,sl,nn,qq,⟨f,g,pc,hl,xt⟩⟩ from if_neg hz] | skip
    refine Aj.fr [80,81,82,83,84,85,86,400,560] [] hx Ax Ak ?_ ?_
    ·simp only [Int.natCast_zero,Auy,spK,LY,seval]
    ·simp only [Qg,hFv,Vf,Hd.v,AU,Ik,Ca,Vl,At,seval]
theorem Aux (ok:OkSn M) (hne:¬ LE.com=D2.com) (l:List In) (v:V) (hv:Aer l v) (hl:l.length < 9223372036854775808) (rs:List (BitVec 64)) (rv:V) (hr:rv=Bn rs ∨ (rv = .nils∧rs=[])) (hrl:rs.length < 9223372036854775808) (np:Nat) (hnp:np < 9223372036854775808) (pf:Nat→Pr) (pv:V) (hpv:Ao9 np pf pv) (k:Int) (ls:List Spo) (sv:V) (hs:Arz ls sv) (hls:ls.length < 9223372036854775808) :
 Af M 22 [v,rv,pv,.int .i64 k,sv] [] 0 (Q3 (.bool true) [] 0):=by
 have hvv:∀ H m z,Bd H m z v v:=by
  intro H m z
  rcases hv with rfl | ⟨rfl,-⟩ <;> simp only [MK,LY,seval]
 have hrr:∀ H m z,Bd H m z rv rv:=by
  intro H m z
  rcases hr with rfl | ⟨rfl,-⟩ <;> simp only [Bn,ws,LY,seval]
 have hpp:∀ H m z,Bd H m z pv pv:=by
  intro H m z
  rcases hpv with rfl | ⟨rfl,-⟩ <;> simp only [CF,seval]
 have hA:=Ao3 ok.at_ l v hv hl rs rv hr hrl np hnp pf pv hpv k
 have h60:=RL k
 have hn1:(Aox ok.at_ l rs np pf k).n≤60:=by
  have:=Aor ok.at_.t (Ta (Aog (FK 16) pf (min np 50)) (ldM l).f rs (min rs.length 16)) (by show 0 < _;omega) (Ya k) Aa
  unfold Aox
  have h0:(Ta (Aog (FK 16) pf (min np 50)) (ldM l).f rs (min rs.length 16)).n=0:=rfl
  rw [h0] at this
  omega
 generalize (Apd ok.at_ l rs np pf k).m=dmm at hA
 generalize Aox ok.at_ l rs np pf k=s at hA hn1
 have hst:=(Aop ok.at_.t s Aa).1
 exact Auv ok hne v rv pv hvv hrr hpp k s dmm _ hst ls.length hls (fun i=>ls.getD i default) sv (hs.imp id fun h=>⟨h.1,by rw [h.2];rfl⟩) hA
theorem Gj:∀ h q,Bm (fun _=>0#64) h q=Am h
 | 0,q=>by simp only [Bm,show B5 0#64=Dg.zero from Sa,ite_self];rfl
 | h + 1,q=>by rw [Bm,Gj h,Gj h];rfl
theorem Y2 (w:Nat→BitVec 64) (hw:∀ j,j < 4→w j=0#64):Kb (AP w)=0:=by
 have h:Kb (AP w)=Cq 8 (fun _=>0) 32:=Ce 8 32 (fun k hk=>by
  rw [AP,Dg.at_mk' _ _ hk,A6,hw _ Aa]
  have:∀ k,k < 32→(V7 (0#64) (k % 8)).toNat=0:=Ak
  exact this k hk)
 rw [h];decide
theorem Ajx:Kb (AP (w4 0#64 1#64 0#64 0#64))=1 <<< 120:=by
 have h:Kb (AP (w4 0#64 1#64 0#64 0#64))=Cq 8 (fun k=>if k=15 then 1 else 0) 32:=Ce 8 32 (fun k hk=>by
  rw [AP,Dg.at_mk' _ _ hk]
  have:∀ k,k < 32→(A6 (w4 0#64 1#64 0#64 0#64) k).toNat=if k=15 then 1 else 0:=Ak
  exact this k hk)
 rw [h];decide
def Amv:Nat:=II (II 0 0) (II 0 0)
def ZX (x:Nat):Nat:=II (Hz 13) (II Amv x)
theorem Ai4:Kb D2.com=ZX 0:=by
 show Kb (B2 (Bm (fun _=>0#64) 13 0) (B2 (B2 (B2 (AP fun _=>0#64) (AP fun _=>0#64)) (B2 (AP fun _=>0#64) (AP fun _=>0#64))) (AP (w4 0#64 0#64 0#64 0#64))))=_
 rw [EO,Gj,KV,EO,EO,EO,Y2 _ (fun _ _=>rfl),Y2 _ Ak];rfl
theorem Ag6:Kb LE.com=ZX (1 <<< 120):=by
 show Kb (B2 (Bm (fun _=>0#64) 13 0) (B2 (B2 (B2 (AP fun _=>0#64) (AP fun _=>0#64)) (B2 (AP fun _=>0#64) (AP fun _=>0#64))) (AP (w4 0#64 1#64 0#64 0#64))))=_
 rw [EO,Gj,KV,EO,EO,EO,Y2 _ (fun _ _=>rfl),Ajx];rfl
theorem RG:Nat.beq (ZX (1 <<< 120)) (ZX 0)=false:=by kernel_rfl
theorem Agc:¬ LE.com=D2.com:=by
 intro h
 have h2:=RG
 rw [← Ag6,← Ai4,h,Nat.beq_refl] at h2
 cases h2
end Mv
namespace Go.Proofs.YtncipgmjhaiagaaGreatDoor
open Go Go.RowKit Go.Extern.Stop Go.Stop Go.Extern
theorem isTypeOf (v:Value) (w:World):(Extern.ReflectliteType.typeOf #[.iface 63 v]).run Tryz.prog w = .ok (.iface 160 (.agg #[.pointer (some ⟨5,63,none⟩)])) w:=by kernel_rfl
def cmpM : Array Value → Sem Value := Extern.ReflectliteType.method fun t => do Extern.Rtype.noPackHeld "Comparable" t; pure (.bool (← typeInfo t).comparable)
theorem isComparable (w:World):(cmpM #[.agg #[.pointer (some ⟨5,63,none⟩)]]).run Tryz.prog w = .ok (.bool true) w:=by kernel_rfl
theorem isMethod (v : Value) (w : World) : (Go.method 375 160 v "Comparable").run Tryz.prog w = .ok (150, v) w := by kernel_rfl
theorem noIs (v:Value) (xT:TypeId) (w:World):(Instr.typeAssert (.iface 63 v) xT 162 true).run Tryz.prog w = .ok (.tuple #[.nilIface,.bool false]) w:=run_typeAssert_lacksB Tryz.underlying162 (by kernel_rfl) (by kernel_rfl) v xT w
theorem noUnwrap (v:Value) (xT:TypeId) (w:World):(Instr.typeAssert (.iface 63 v) xT 165 true).run Tryz.prog w = .ok (.tuple #[.nilIface,.bool false]) w:=run_typeAssert_lacksB Tryz.underlying165 (by kernel_rfl) (by kernel_rfl) v xT w
theorem noUnwraps (v:Value) (xT:TypeId) (w:World):(Instr.typeAssert (.iface 63 v) xT 167 true).run Tryz.prog w = .ok (.tuple #[.nilIface,.bool false]) w:=run_typeAssert_lacksB Tryz.underlying167 (by kernel_rfl) (by kernel_rfl) v xT w
theorem isComp:(Tryz.prog.info? 63).map (·.comparable)=some true:=by kernel_rfl
theorem eql_errno (a b:Int) (w:World):(binOp .eql 34 (.iface 63 (.int .i64 a)) (.iface 63 (.int .i64 b))).run Tryz.prog w = .ok (.bool (decide (a=b))) w:=by
 obtain ⟨i,hi,hcmp⟩:=Option.map_eq_some_iff.1 isComp
 have h1:∀ d:Nat,(Op.equalIn (d + 1) 63 (.int .i64 a) (.int .i64 b)).run Tryz.prog w = .ok (decide (a=b)) w:=fun d=>by
  simp only [Op.equalIn,Sem.run_bind,run_underlying Tryz.underlying63,Result.andThen_ok,if_true,Sem.run_pure]
  congr 1
 have h:∀ d:Nat,(Op.equalIn (d + 2) 34 (.iface 63 (.int .i64 a)) (.iface 63 (.int .i64 b))).run Tryz.prog w = .ok (decide (a=b)) w:=fun d=>by
  have:=h1 d
  simp [Op.equalIn,run_underlying Tryz.underlying34,typeInfo,hi,hcmp] at this ⊢
  exact this
 simp only [binOp]
 simp [Op.equal,Op.maxDepth,h 9998]
theorem is_errno' (a b:Int) (c:Bool) (hc:decide (a=b)=c) (w:World) :
 Calls Tryz.prog 14 #[.iface 63 (.int .i64 a),.iface 63 (.int .i64 b)] w fun e w'=>e = .returned (.bool c)∧w'=w:=by
 have h8:=@run_callFunc_extern Tryz.prog 34 _ Extern.ReflectliteType.typeOf Tryz.func34 (by kernel_rfl) (by kernel_rfl) (by kernel_rfl) (by kernel_rfl)
 have h32:=@run_callFunc_extern Tryz.prog 150 _ cmpM Tryz.func150 (by kernel_rfl) (by kernel_rfl) (by kernel_rfl) (by kernel_rfl)
 have tT:=isTypeOf
 have cT:=isComparable
 have mR:=isMethod
 have nE:=noIs
 have uE:=noUnwrap
 have vE:=noUnwraps
 have heq:=eql_errno a b w
 rw [hc] at heq
 clear hc
 cases c
 ·go_enter Tryz.func14,Tryz.ntmps14
  go_wp2
  refine wp_loop_rounds 1 ?_
  rw [rounds_succ]
  go_wp2
  go_ret
  exact ⟨rfl,rfl⟩
 ·go_enter Tryz.func14,Tryz.ntmps14
  go_wp2
  refine wp_loop_rounds 1 ?_
  rw [rounds_succ]
  go_wp2
  go_ret
  exact ⟨rfl,rfl⟩
end Go.Proofs.YtncipgmjhaiagaaGreatDoor
namespace Mv
open Go
def HB (M:Seat) (W:World):Env where
 ρ:=fun _=>0
 D:=fun _=>False
 im:=fun b=>∃ cells el fz,W.heap[b]?=some (.cells cells el fz)
 w:=W
 φ:=M.φ
 τ:=M.τ
theorem Inv.start (M:Seat) (W:World) (hg:GS M (HB M W)):Inv M ⟨HB M W,fun b=>∃ id,Ae [] id=true∧(HB M W).ρ id=b,0⟩ (HB M W) [] where
 ev:=⟨rfl,rfl,rfl,Nat.le_refl _,fun _ _ _=>rfl,fun _=>Nat.le_refl _⟩
 blk:=fun id h=>by simp [Ae] at h
 inj:=fun i j h=>by simp [Ae] at h
 imo:=fun b h=>.inl h
 imb:=fun b h=>h
 rb:=fun id h=>h.elim
 keep:=fun b h=>h
 low:=fun id h=>by simp at h
 gs:=hg
 φ:=rfl
 τ:=rfl
theorem TP {M:Seat} {f:Nat} {us:List V} {vs:Array Value} {Q:V→Hp→Nat→Prop} (hr:Af M f us [] 0 Q) (W:World) (hg:GS M (HB M W)) (ha:Qb (HB M W) us vs) :
 Calls M.P (M.φ f) vs W fun en W'=>∃ x v H' k' e',en = .returned x∧RV e' v x∧Q v H' k'∧RowKit.Below W.heap.size W W':=by
 refine (hr (HB M W) vs (Inv.start M W hg) (fun id _ h=>h) ha).mono ?_
 rintro en W' ⟨x,v,e',H',k',rfl,rfl,hI,hv,_,_,hQ⟩
 refine ⟨x,v,H',k',e',rfl,hv,hQ,hI.ev.os,hI.ev.tape,hI.ev.output,hI.ev.size,fun k hk=>hI.ev.frame k hk ?_⟩
 rintro ⟨id,h,_⟩
 simp [Ae] at h
theorem Yx {M:Seat} {W:World} {name:String} {k:IntKind} {zs:List Int} {g:Nat} (h:Lib.TabIs M.P W name k zs) (hg:M.P.globalNamed name=some g) (hpos:0 < zs.length) :
 R (HB M W) (.imm (.ar 1 zs.length (fun i=>.int k (zs.getD i 0)))) [.pointer (some ⟨g,0,none⟩)]:=by
 have hc:∀ i,i < zs.length→W.cell? ⟨g,i,none⟩=some (.int k (zs.getD i 0)):=fun i hi=>h.cell hg i hi
 have h0:=hc 0 hpos
 simp only [R]
 cases hb:W.heap[g]? with
 | none=>simp [World.cell?,hb] at h0
 | some o =>
   cases o with
   | cells c el fz =>
     have hci:∀ i,i < zs.length→c[i]?=some (.int k (zs.getD i 0)):=fun i hi=>by simpa [World.cell?,hb] using hc i hi
     have hsz:zs.length≤c.size:=by
      have:=hci (zs.length - 1) Aa
      have:=(Array.getElem?_eq_some_iff.1 this).1
      omega
     refine ⟨g,0,c,el,fz,rfl,⟨c,el,fz,hb⟩,hb,by simp only [V.size];omega,by simp [V.size];omega,fun i hi=>⟨⟨rfl,rfl⟩,?_⟩⟩
     simp only [V.size,Nat.mul_one,List.drop_zero]
     have h1:=hci i hi
     have h2:c.toList[i]?=some (.int k (zs.getD i 0)):=by simpa using h1
     apply List.ext_getElem?
     intro j
     cases j with
     | zero=>simp [List.getElem?_take,List.getElem?_drop,hi,h1]
     | succ j=>simp [List.getElem?_take]
   | _=>simp [World.cell?,hb] at h0
end Mv
namespace Go.Proofs.YtncipgmjhaiagaaGreatDoor
open Go Mv
noncomputable def st:Seat where
 P:=Tryz.prog
 φ:=fun i=>match i with | 22=>5 | 49=>27 | 50=>136 | 51=>25 | 52=>145 | 53=>144 | 54=>9 | 55=>13 | 56=>93 | 59=>53 | 60=>68 | 62=>26 | 63=>14 | 65=>109 | 66=>110 | 68=>24 | 70=>12 | 73=>19 | 74=>20 | 75=>21 | 77=>42 | 78=>37 | 79=>30 | 90=>44 | 95=>7 | 96=>8 | 97=>10 | 98=>11 | 99=>15 | 100=>16 | 167=>135 | 196=>22 | 197=>48 | 198=>138 | 199=>51 | 200=>50 | 201=>146 | 202=>83 | 203=>107 | 204=>108 | 205=>70 | 206=>67 | 207=>52 | 208=>86 | 209=>92 | 212=>40 | 213=>49 | 214=>29 | 215=>31 | 216=>32 | 217=>33 | 218=>39 | 219=>41 | 220=>57 | 226=>76 | 227=>77 | 228=>78 | 229=>79 | 230=>80 | 240=>23 | 241=>28 | 242=>36 | 243=>38 | 259=>114 | 276=>137 | 277=>111 | 308=>66 | 311=>74 | 312=>91 | 315=>81 | 316=>82 | 317=>84 | 318=>85 | 319=>72 | 320=>73 | 321=>58 | 322=>59 | 323=>60 | 324=>61 | 325=>62 | 326=>63 | 327=>64 | 328=>65 | 329=>71 | 330=>75 | 335=>103 | 336=>104 | 342=>43 | 343=>45 | 344=>46 | 345=>47 | 346=>54 | 347=>55 | 348=>56 | 349=>69 | 413=>100 | 414=>101 | 415=>102 | 417=>105 | 418=>97 | 419=>98 | 420=>99 | 421=>88 | 423=>90 | 448=>87 | 449=>94 | 450=>95 | 451=>96 | 461=>112 | 462=>113 | 463=>106 | 595=>132 | 596=>133 | 597=>134 | 598=>140 | 599=>141 | 600=>142 | 601=>143 | _=>0
 τ:=fun i=>match i with | 74=>63 | 362=>114 | 422=>86 | 426=>91 | n=>n
 γ:=fun i=>match i with | 1=>2 | 2=>3 | 3=>4 | n=>n
 gl:=[1,2,3]
theorem fn220:Rz st 220:=⟨by decide,Tryz.f57,Tryz.func57,by kernel_rfl,by kernel_rfl⟩
theorem mth426_0:Cs st 426 0 599:=⟨⟨by decide,Tryz.f141,Tryz.func141,by kernel_rfl,by kernel_rfl⟩,fun v w=>by kernel_rfl⟩
theorem mth426_1:Cs st 426 1 600:=⟨⟨by decide,Tryz.f142,Tryz.func142,by kernel_rfl,by kernel_rfl⟩,fun v w=>by kernel_rfl⟩
theorem mth426_2:Cs st 426 2 598:=⟨⟨by decide,Tryz.f140,Tryz.func140,by kernel_rfl,by kernel_rfl⟩,fun v w=>by kernel_rfl⟩
theorem mth422_0:Cs st 422 0 596:=⟨⟨by decide,Tryz.f133,Tryz.func133,by kernel_rfl,by kernel_rfl⟩,fun v w=>by kernel_rfl⟩
theorem mth422_1:Cs st 422 1 597:=⟨⟨by decide,Tryz.f134,Tryz.func134,by kernel_rfl,by kernel_rfl⟩,fun v w=>by kernel_rfl⟩
theorem mth422_2:Cs st 422 2 595:=⟨⟨by decide,Tryz.f132,Tryz.func132,by kernel_rfl,by kernel_rfl⟩,fun v w=>by kernel_rfl⟩
theorem okM:OkM st:=by constructor <;> kernel_rfl
theorem okH:OkH st:=by constructor <;> kernel_rfl
theorem okS:OkS st:=⟨okH,by kernel_rfl,by kernel_rfl,by kernel_rfl,by kernel_rfl,by kernel_rfl⟩
theorem okV:OkV st:=⟨okS,by kernel_rfl,by kernel_rfl,by kernel_rfl,by kernel_rfl,by kernel_rfl,fn220⟩
theorem okI:OkI st:=⟨okV⟩
theorem okW:OkW st:=⟨okI,by kernel_rfl⟩
theorem okO:OkO st:=⟨okW,by kernel_rfl,by kernel_rfl,by kernel_rfl,by kernel_rfl⟩
theorem okP:OkP st:=by constructor <;> kernel_rfl
theorem okT:OkT st:=⟨okM,okO,okP⟩
theorem okRP:OkRP st:=⟨by kernel_rfl⟩
theorem okX:OkX st:=by constructor <;> kernel_rfl
theorem okRM:OkRM st:=⟨by kernel_rfl,by kernel_rfl,by kernel_rfl,by kernel_rfl,okRP,okX⟩
theorem okR:OkR st:=by constructor <;> kernel_rfl
theorem okRG:OkRG st:=⟨okR,by kernel_rfl⟩
theorem okB:OkB st:=by constructor <;> kernel_rfl
theorem okRH:OkRH st:=⟨okRM,okRG,okB⟩
theorem okI7:OkI7 st:=⟨by kernel_rfl⟩
theorem okI75:OkI75 st:=⟨okI7,by kernel_rfl⟩
theorem okAt:OkAt st:=⟨okT,okRH,okI75,by kernel_rfl,by kernel_rfl⟩
theorem okNx:OkNx st:=by constructor <;> kernel_rfl
theorem okQ:OkQ st:=⟨okM,okO,okP,okNx⟩
theorem okD:OkD st:=by constructor <;> kernel_rfl
theorem okCk:OkCk st:=⟨by kernel_rfl,by kernel_rfl,by kernel_rfl,by kernel_rfl,mth426_0,mth426_1,mth426_2⟩
theorem okPr:OkPr st:=⟨by kernel_rfl,by kernel_rfl,by kernel_rfl,by kernel_rfl,by kernel_rfl,mth422_0,mth422_1,mth422_2⟩
theorem okOs:OkOs st:=⟨okQ,okD,okCk,okPr,by kernel_rfl,by kernel_rfl⟩
theorem okF15:OkF15 st:=⟨okOs,by kernel_rfl⟩
theorem okW2:OkW2 st:=⟨okB,by kernel_rfl,by kernel_rfl,by kernel_rfl,by kernel_rfl,by kernel_rfl,by kernel_rfl,by kernel_rfl⟩
theorem okRS:OkRS st:=⟨okW2,okRM,by kernel_rfl,by kernel_rfl,by kernel_rfl,by kernel_rfl,by kernel_rfl⟩
theorem okRV:OkRV st:=⟨okRS,by kernel_rfl,by kernel_rfl⟩
theorem okSp:OkSp st:=⟨by kernel_rfl⟩
theorem is_runs (a b:Int):Af st 63 [.ifc 74 (.int .i64 a),.ifc 74 (.int .i64 b)] [] 0 (Q3 (.bool (decide (a=b))) [] 0):=by
 intro e vs hI hD hargs
 obtain ⟨hlen,hargs⟩:=hargs
 have hτ:e.τ 74=63:=by exact (congrFun hI.τ 74).trans rfl
 match vs,hlen with
 | ⟨[v0, v1]⟩, _ =>
   have h0:=hargs 0
   have h1:=hargs 1
   simp [RV,RS,V.isAgg,R,hτ] at h0 h1
   rw [h0.1,h1.1]
   refine (is_errno' a b _ rfl e.w).mono ?_
   rintro en w' ⟨rfl,rfl⟩
   exact ⟨_,.bool _,e,[],0,rfl,rfl,hI,by simp [RV,RS,V.isAgg,R],hD,Nat.le_refl _,rfl,rfl,rfl⟩
theorem okSn:OkSn st:=⟨okAt,okF15,okRV,okSp,by kernel_rfl,is_runs⟩
end Go.Proofs.YtncipgmjhaiagaaGreatDoor
