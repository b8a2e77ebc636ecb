/- A part. -/
import Derived.Test.YtlfkjfonpacelaaGreatDoorJL
set_option linter.all false
set_option maxRecDepth 20000
set_option maxHeartbeats 16000000
namespace Mv
open Go
theorem YG {G:Gs} {a:Nat} {df:Bool} {v:Dg} {pl:Int} {bd t:BitVec 64} {k i:Nat} (h:mvE G a df v pl bd t k i=none) :
 k < G.D∧¬ (df=true∧i + 1=2 ^ k)∧bd=BitVec.ofNat 64 (k + 2)∧(¬ ∃ j,j < G.n∧PA (WN a v pl) (P9 k i df) (G.c j))∧¬ KA (G.c a).us (G.c a).at' (Hq G.c (G.c a)) t
  ∧ ¬ G.l≤Hq G.c (G.c a) + t - (G.c a).at'∧G.n < 64∧(∃ p:Nat,p < 8∧pl=p)∧¬ G.b pl.toNat < bd:=by
 unfold mvE at h;by_cases h1:G.D≤k
 ·rw [if_pos h1] at h;cases h
 rw [if_neg h1] at h;by_cases h2:df=true∧i + 1=2 ^ k
 ·rw [if_pos h2] at h;cases h
 rw [if_neg h2] at h;by_cases h3:bd=BitVec.ofNat 64 (k + 2);case neg=>rw [if_pos h3] at h;cases h
 rw [if_neg (fun q=>q h3)] at h;by_cases h4:∃ j,j < G.n∧PA (WN a v pl) (P9 k i df) (G.c j)
 ·rw [if_pos h4] at h;cases h
 rw [if_neg h4] at h;by_cases h5:KA (G.c a).us (G.c a).at' (Hq G.c (G.c a)) t
 ·rw [if_pos h5] at h;cases h
 rw [if_neg h5] at h;by_cases h6:G.l≤Hq G.c (G.c a) + t - (G.c a).at'
 ·rw [if_pos h6] at h;cases h
 rw [if_neg h6] at h;by_cases h7:64≤G.n
 ·rw [if_pos h7] at h;cases h
 rw [if_neg h7] at h;by_cases h8:pl < 0 ∨ 8≤pl
 ·rw [if_pos h8] at h;cases h
 rw [if_neg h8] at h;by_cases h9:G.b pl.toNat < bd
 ·rw [if_pos h9] at h;cases h
 exact ⟨by omega,h2,h3,h4,h5,h6,by omega,⟨pl.toNat,by omega,by omega⟩,h9⟩
theorem Ajq {G:Gs} {vf:Dg→Dg × Option Int} {a:Nat} {df:Bool} {pl:Int} {t:BitVec 64} (h:G.stE vf a df pl t=none) :
 (∃ p:Nat,p < 8∧pl=p)∧Gg (G.c a).pos=G.D∧(G.c a).st=false:=by
 unfold Gs.stE at h;cases hP:G.stP a df pl t with
 | some e=>rw [hP] at h;cases h
 | none =>
   unfold Gs.stP at hP;by_cases h1:pl < 0 ∨ 8≤pl
   ·rw [if_pos h1] at hP;cases hP
   rw [if_neg h1] at hP;by_cases h2:Gg (G.c a).pos=G.D;case neg=>rw [if_pos h2] at hP;cases hP
   rw [if_neg (fun q=>q h2)] at hP;by_cases h3:df=true∧G.enJ a=none
   ·rw [if_pos h3] at hP;cases hP
   rw [if_neg h3] at hP;cases h4:(G.c a).st with
   | true=>rw [if_pos h4] at hP;cases hP
   | false=>exact ⟨⟨pl.toNat,by omega,by omega⟩,h2,rfl⟩
theorem Atx {G:Gs} {vf:Dg→Dg × Option Int} {a:Int} {df:Bool} {pl:Int} {t:BitVec 64} (h:G.tE vf a df pl t=none):∃ p:Nat,a=p∧p < G.n∧(G.c p).rs=false∧G.stE vf p df pl t=none:=by
 unfold Gs.tE at h;by_cases h1:a < 0 ∨ (G.n:Int)≤a
 ·rw [if_pos h1] at h;cases h
 rw [if_neg h1] at h;obtain ⟨p,rfl⟩:∃ p:Nat,a=p:=⟨a.toNat,by omega⟩
 rw [Int.toNat_natCast] at h;cases hrs:(G.c p).rs with
 | true=>rw [if_pos hrs] at h;cases h
 | false=>rw [if_neg (by rw [hrs];simp)] at h;exact ⟨p,rfl,by omega,hrs,h⟩
structure Gs.ok (G:Gs):Prop where
 w:G.wf
 b:G.bd
 n0:0 < G.n
theorem Adw {D k i:Nat} {df:Bool} (hk:k < D) (hi:i < 2 ^ k) (h:¬ (df=true∧i + 1=2 ^ k)):∃ k' i',k'≤D∧i' < 2 ^ k'∧P9 k i df=pw k' i':=by
 have e:2 ^ (k + 1)=2 * 2 ^ k:=KX;unfold P9;cases df with
 | true=>exact ⟨k + 1,2 * i + 2,hk,by rw [e];have:i + 1 ≠ 2 ^ k:=fun q=>h ⟨rfl,q⟩;omega,by simp⟩
 | false=>exact ⟨k + 1,2 * i,hk,by rw [e];omega,by simp⟩
theorem Ao7 {G:Gs} (h:G.ok) {a:Int} {df:Bool} {v:Dg} {pl:Int} {bd t:BitVec 64} (he:G.mE a df v pl bd t=none):(G.mT a df v pl bd t).ok:=by
 obtain ⟨p,rfl,hp,hrs,he⟩:=Gs.mE_in he;obtain ⟨k,i,hk,hi,hpos⟩:=h.w.pls p hp;have hD:=h.w.hD;unfold Gs.mT;rw [Int.toNat_natCast];rw [hpos,BR Aa hi,CI Aa hi] at he ⊢;obtain ⟨h1,h2,h3,-,-,-,h7,⟨q,hq,rfl⟩,-⟩:=YG he;have hA:=Adw h1 hi h2;refine ⟨⟨hD,?_,h.w.hr,fun j hj=>?_,fun j hj=>?_⟩,⟨fun j hj=>?_,fun j hj=>?_,fun j hj=>?_⟩,?_⟩
 ·show G.n + 1≤64;omega
 all_goals try (show 0 < G.n + 1;omega)
 all_goals
  have hj:j < G.n + 1:=hj;dsimp only [Gs.mv];by_cases hjn:j < G.n
 all_goals simp only [hjn,B4]
 ·exact h.w.pls j hjn
 ·exact hA
 ·exact h.w.prs j hjn
 ·exact .inr ⟨p,rfl,by omega⟩
 ·exact h.b.bond j hjn
 ·refine ⟨?_,rfl⟩;show (G.n:Int)=j;omega
 ·exact h.b.by' j hjn
 ·exact ⟨q,hq,rfl⟩
 ·exact h.b.pl j hjn
 ·exact ⟨q,hq,rfl⟩
theorem At0 {G:Gs} (h:G.ok) {vf:Dg→Dg × Option Int} {a:Int} {df:Bool} {pl:Int} {t:BitVec 64} (he:G.tE vf a df pl t=none):(G.tT a pl).ok:=by
 obtain ⟨p,rfl,hp,hrs,he⟩:=Atx he;obtain ⟨⟨q,hq,rfl⟩,-,-⟩:=Ajq he;refine ⟨⟨h.w.hD,h.w.hn,h.w.hr,fun j hj=>?_,fun j hj=>?_⟩,⟨fun j hj=>?_,fun j hj=>?_,fun j hj=>?_⟩,h.n0⟩;all_goals
  dsimp only [Gs.tT];rw [Int.toNat_natCast];by_cases hjp:j=p
 all_goals first | subst hjp | skip
 all_goals first | simp only [hjp,if_false] | simp only [if_true]
 ·exact h.w.pls j hj
 ·exact h.w.pls j hj
 ·exact h.w.prs j hj
 ·exact h.w.prs j hj
 ·exact h.b.bond j hj
 ·exact h.b.bond j hj
 ·exact ⟨q,hq,rfl⟩
 ·exact h.b.by' j hj
 ·exact h.b.pl j hj
 ·exact h.b.pl j hj
theorem Am0 {G:Gs} (h:G.ok) {a:Nat} (ha:a < G.n):(G.rsv a).ok:=by
 obtain ⟨q,hq,hB⟩:=G.rsB_lt h.b ha;refine ⟨⟨h.w.hD,h.w.hn,h.w.hr,fun j hj=>?_,fun j hj=>?_⟩,⟨fun j hj=>?_,fun j hj=>?_,fun j hj=>?_⟩,h.n0⟩;all_goals
  dsimp only [Gs.rsv,Gs.rsC];by_cases hjp:j=a
 all_goals first | subst hjp | skip
 all_goals first | simp only [hjp,if_false] | simp only [if_true]
 ·exact h.w.pls j hj
 ·exact h.w.pls j hj
 ·exact h.w.prs j hj
 ·exact h.w.prs j hj
 ·exact ⟨(h.b.bond j hj).1,trivial⟩
 ·exact h.b.bond j hj
 ·exact ⟨q,hq,hB⟩
 ·exact h.b.by' j hj
 ·exact h.b.pl j hj
 ·exact h.b.pl j hj
structure Op where
 kd:Int
 cl:Int
 df:Bool
 vl:Int
 pl:Int
 off:BitVec 64
 tn:BitVec 64
 wt:BitVec 64
instance:Inhabited Op:=⟨⟨0,0,false,0,0,0,0,0⟩⟩
def Op.v (o:Op):V:=.st 8 (.fcons 0 (.int .i64 o.kd) (.fcons 1 (.int .i64 o.cl) (.fcons 2 (.bool o.df) (.fcons 3 (.int .i64 o.vl) (.fcons 4 (.int .i64 o.pl) (.fcons 5 (W o.off) (.fcons 6 (W o.tn) (.fcons 7 (W o.wt) .fnil))))))))
def clF (v:Dg) (p:Int) (t:BitVec 64):Cl:=⟨-1,1#64,v,p,0,0#64,t,false,false,false,p⟩
def Gs.new (D:Nat) (l g:BitVec 64) (s v:Dg) (p:Nat) (t:BitVec 64) (b:Nat→BitVec 64) (i o k:BitVec 64):Gs:=⟨D,l,g,s,1,fun _=>clF v p t,fun j=>if j=p then b p - 1#64 else b j,i,o,k + 1#64,fun _=>1#64,fun _=>false⟩
theorem Mh {M:Seat} (ok:OkMv M) (D:Nat) (l g:BitVec 64) (s v:Dg) (p:Nat) (t:BitVec 64) (b:Nat→BitVec 64) (i o k:BitVec 64) (hD:1≤D∧D≤20) (hr:RY l g) (hp:p < 8) (ht:¬ 1099511627776#64 < t) (hb:¬ b p < 1#64) :
 Ae M 112 [Av D l g s,.ptr 0 [],.int .i64 p,dg v,W t] [(0,A6 b i o .nils k)] 1 (Q3 (Ai (.ptr 2 []) .nili) [(0,A6 (fun j=>if j=p then b p - 1#64 else b j) i o (.sl 1 [] 0 1 2) (k + 1#64)),(1,AQ 1 (fun _=>1#64) (fun _=>false)),(2,As D l g s (.ptr 0 []) (.sl 3 [] 0 1 42)),(3,Au 1 fun _=>clF v p t)] 4):=by
 have hB:=Jw ok.g.n 0;rw [show (if (0:Int) < 0 then 0#64 else BitVec.ofInt 64 0 + 1#64)=1#64 from rfl] at hB;have hL:=TB ok.g.l b i o k p hp 1#64 hb;have hC:=G5 ok l g hr;have d0:((D:Int) < 1)=False:=eq_false Aa;have d1:((20:Int) < (D:Int))=False:=eq_false Aa;refine Ab ok.g.n.k112 rfl fun x hx=>?_;refine eX ?_;simp only [Asl,Ase,Av,Ad,d0,d1,LZ,seval];have zz:=@b9;refine Dh (hC) ?_;simp only [ht,LZ,seval];refine Aj (hB) ?_;simp only [LZ,seval];have zz:=AY @j4 @j8;refine GY [0] (hL) ?_;simp only [Bb,A6,AM,seval];refine Ap.mk hx [0,465,817,785] [] (Ai (.ptr 2 []) .nili) _ 4 Al (by (simp only [Di,seval])) (by simp only [LV,Ai,LY,seval]) ?_ ⟨rfl,rfl,rfl⟩;simp only [A6,AQ,AM,Au,As,Av,Ad,clF,Cl.v,dg,LY,seval,implies_true];intro j hj;obtain rfl:j=0:=Aa;simp only [if_true,LY,seval,implies_true]
structure Ga where
 dp:Int
 pl:Int
 rt:Int
 lm:BitVec 64
 gr:BitVec 64
 rc:BitVec 64
 nw:BitVec 64
instance:Inhabited Ga:=⟨⟨0,0,0,0,0,0,0⟩⟩
def Ga.v (a:Ga):V:=.st 7 (.fcons 0 (.int .i64 a.dp) (.fcons 1 (.int .i64 a.pl) (.fcons 2 (.int .i64 a.rt) (.fcons 3 (W a.lm) (.fcons 4 (W a.gr) (.fcons 5 (W a.rc) (.fcons 6 (W a.nw) .fnil)))))))
theorem XU (l g:BitVec 64) (hr:RY l g) (D:Nat) (hD:D≤20) (s v:Dg) (p:Nat) (hp:p < 8) (t:BitVec 64) (b:Nat→BitVec 64) (i o k:BitVec 64):(Gs.new D l g s v p t b i o k).ok:=by
 refine ⟨⟨hD,(by show 1≤64;decide),hr,fun j hj=>?_,fun j hj=>?_⟩,⟨fun j hj=>?_,fun j hj=>?_,fun j hj=>?_⟩,(by show 0 < 1;decide)⟩;all_goals
  have hj:j < 1:=hj;obtain rfl:j=0:=Aa
 ·exact ⟨0,0,Nat.zero_le _,by decide,rfl⟩
 ·exact .inl rfl
 ·exact ⟨rfl,rfl⟩
 ·exact ⟨p,hp,rfl⟩
 ·exact ⟨p,hp,rfl⟩
def d1 (a:BitVec 8):Dg:=Dg.mk' fun j=>if j=0 then a else 0#8
def Agt:LC:=(sr [A1 4 (.mv (.c .nilp)),mn 5] (.seq (.block 0 (sr [mt 14 0,A1 15 (.eq false true .ptr (.t 14) (.c .nilp)),mt 16 15,mg 17 16 false 1,A2 18 16 false (.eq false true .ptr (.t 17) (.c .nilp)),
  CQ 19 16 18,mt 13 19] (.cond (.t 13) (sr [A1 20 (.mkif 74 (cI 1)),A1 4 (.mv (.c .nilp)),mt 5 20] .ret) (.seq (.regd [⟨0,0,mt 22 0⟩,⟨1,1,kl 23 119 [(.t 22)]⟩,⟨2,3,A1 24 (.fld 0 1 false (.t 23))⟩,⟨3,0,mt 25 1⟩,⟨4,8,nc 26 25⟩,⟨5,24,fa 27 1 26⟩,⟨6,56,lb 28 1 27⟩,⟨7,127,ak 29 .neq 24 28⟩,⟨8,255,mt 21 29⟩]) (.cond (.t 21) (sr [A1 30 (.mkif 74 (cI 3)),A1 4 (.mv (.c .nilp)),mt 5 30] .ret) .skip))))) (sr [mt 31 0,mt 32 1,A1 33 (.build (.st (.cons .ptr (.cons .ptr (.cons .slice (.cons .slice (.cons zI .nil)))))) [(.f 0,1,(.t 31)),(.f 1,1,(.t 32))]),
  bX 34 33,mt 6 34] (.seq (sr [mt 35 0,kl 36 117 [(.t 35)],
  mI 37 0] (.block 1 (.loop (sr [ak 38 .lss 37 36] (.seq (DJ 38 1) (.seq (.block 2 (sr [mt 39 37,mt 7 39] (sr [mt 41 0,mt 42 7,kl 43 111 [(.t 41),(.t 42)],mt 40 43,ee 44 40 0,ee 45 40 1,A1 8 (.alloc zC),sb 42 8 44,mt 9 45] (.seq (sr [mt 46 9,A1 47 (.eq true true (.iface [74]) (.t 46) (.c .nili))] (.cond (.t 47) (sr [mt 48 9,A1 4 (.mv (.c .nilp)),mt 5 48] .ret) .skip)) (.seq (.regd [⟨0,0,fa 50 1 8⟩,⟨1,1,lb 51 1 50⟩,⟨2,0,mt 52 1⟩,⟨3,4,nc 53 52⟩,⟨4,12,fa 54 1 53⟩,⟨5,28,lb 55 1 54⟩,⟨6,63,kl 56 359 [(.t 51),(.t 55)]⟩,⟨7,127,mt 49 56⟩,⟨8,255,ee 57 49 0⟩,⟨9,255,ee 58 49 1⟩,⟨10,511,mt 10 57⟩,⟨11,2047,mt 11 58⟩]) (sr [mt 60 1,mt 61 10,kl 62 154 [(.t 60),(.t 61)],mt 59 62,ee 63 59 0,ee 64 59 1,
  aB 12 32,sb 32 12 63,mt 9 64] (.seq (sr [mt 65 9,A1 66 (.eq true true (.iface [74]) (.t 65) (.c .nili))] (.cond (.t 66) (sr [mt 67 9,A1 4 (.mv (.c .nilp)),mt 5 67] .ret) .skip))
 (.regd [⟨2,0,mt 70 6⟩,⟨3,1,nc 71 70⟩,⟨4,3,fa 72 2 71⟩,⟨5,7,lb 73 1 72⟩,⟨6,0,la 74 42 8⟩,⟨7,16,A1 75 (.bsl 42 1 zC [(.i 42 0,42,(.t 74))])⟩,⟨8,63,aP 76 42 96 73 75⟩,⟨9,0,mt 77 6⟩,⟨10,128,nc 78 77⟩,⟨11,384,fa 79 3 78⟩,⟨12,896,lb 80 1 79⟩,⟨13,0,la 81 32 12⟩,⟨14,0,fa 82 2 8⟩,⟨15,4096,la 83 32 82⟩,⟨16,14336,A1 84 (.eq false false (.ar 32 1 false .int) (.t 81) (.t 83))⟩,⟨17,30720,A1 85 (.bsl 1 1 .bool [(.i 1 0,1,(.t 84))])⟩,⟨18,65535,aP 86 1 1 80 85⟩,⟨0,0,mt 68 6⟩,⟨19,262143,nc 87 68⟩,⟨20,524287,fa 88 2 87⟩,⟨21,1048575,sb 1 88 76⟩,⟨1,0,mt 69 6⟩,⟨22,4194303,nc 89 69⟩,⟨23,8388607,fa 90 3 89⟩,⟨24,16777215,sb 1 90 86⟩])))))))) (.reg [aI 91 .add 37 1,mt 37 91]))))))) (.seq (sr [mt 92 6,nc 93 92,fa 94 3 93,lb 95 1 94,
  iJ 96 1 95 0,lb 97 1 96,A1 98 (.un .not (.t 97))] (.cond (.t 98) (.reg [mt 99 6,nc 100 99,fa 101 4 100,A0 (.store 1 (.t 101) (cI 1))]) .skip)) (sr [mt 102 6,mt 4 102,mn 5] .ret))))))
def Agb:LF:=⟨Agt,2,0,103,[.tmp 4,.tmp 5]⟩
def Amh:LC:=(sr [A1 4 (.mv (.c (.bool false)))] (.seq (.block 0 (.loop (.seq (sr [mt 8 1,aI 9 .geq 8 0]
 (DJ 9 0)) (.seq (.block 1 (sr [mt 25 0,nc 26 25,fa 27 2 26,lb 28 1 27,mt 29 1,ia 30 42 28 29,la 31 42 30,A1 5 (.alloc zC),sb 42 5 31] (.seq (sr [mt 32 0,nc 33 32,fa 34 3 33,lb 35 1 34,mt 36 1,ia 37 1 35 36,lb 38 1 37,A1 39 (.un .not (.t 38))] (.cond (.t 39) (sr [A1 4 (.mv (.c (.bool false)))] .ret) .skip)) (.seq (sr [fa 40 0 5,lb 41 1 40,aI 42 .lss 41 0] (.cond (.t 42) (sr [A1 4 (.mv (.c (.bool true)))] .ret) .skip)) (.seq (.regd [⟨0,0,mt 44 0⟩,⟨1,1,nc 45 44⟩,⟨2,3,fa 46 2 45⟩,⟨3,7,lb 47 1 46⟩,⟨4,0,fa 48 0 5⟩,⟨5,16,lb 49 1 48⟩,⟨6,63,ia 50 42 47 49⟩,⟨7,127,fa 51 1 50⟩,⟨8,255,lb 52 1 51⟩,⟨9,511,kl 53 131 [(.t 52)]⟩,⟨10,1023,mt 43 53⟩,⟨11,2047,ee 54 43 0⟩,⟨12,2047,ee 55 43 1⟩,⟨13,4095,mt 6 54⟩,⟨14,16383,mt 7 55⟩]) (.seq (.seq (.regd [⟨0,0,mt 56 0⟩,⟨1,1,nc 57 56⟩,⟨2,3,fa 58 3 57⟩,⟨3,7,lb 59 1 58⟩,⟨4,0,fa 60 0 5⟩,⟨5,16,lb 61 1 60⟩,⟨6,63,ia 62 1 59 61⟩,⟨7,127,lb 63 1 62⟩]) (.cond (.t 63) (.regd [⟨0,0,mt 65 0⟩,⟨1,1,nc 66 65⟩,⟨2,3,fa 67 2 66⟩,⟨3,7,lb 68 1 67⟩,⟨4,0,fa 69 0 5⟩,⟨5,16,lb 70 1 69⟩,⟨6,63,ia 71 42 68 70⟩,⟨7,127,fa 72 1 71⟩,⟨8,255,lb 73 1 72⟩,⟨9,511,kl 74 132 [(.t 73)]⟩,⟨10,1023,mt 64 74⟩,⟨11,2047,ee 75 64 0⟩,⟨12,2047,ee 76 64 1⟩,⟨13,4095,mt 6 75⟩]) .skip)) (sr [fa 77 1 5,lb 78 1 77,mt 79 6,ak 80 .neq 78 79] (.cond (.t 80) (sr [A1 4 (.mv (.c (.bool false)))] .ret) .skip))))))))
 (.regd [⟨0,0,mt 10 0⟩,⟨1,1,nc 11 10⟩,⟨2,3,fa 12 2 11⟩,⟨3,7,lb 13 1 12⟩,⟨4,0,mt 14 0⟩,⟨5,16,nc 15 14⟩,⟨6,48,fa 16 2 15⟩,⟨7,112,lb 17 1 16⟩,⟨8,0,mt 18 1⟩,⟨9,496,ia 19 42 17 18⟩,⟨10,1008,fa 20 0 19⟩,⟨11,2032,lb 21 1 20⟩,⟨12,4095,ia 22 42 13 21⟩,⟨13,8191,fa 23 0 22⟩,⟨14,16383,lb 24 1 23⟩,⟨15,32767,mt 1 24⟩]))))) (sr [A1 4 (.mv (.c (.bool true)))] .ret)))
def Zg:LF:=⟨Amh,2,0,81,[.tmp 4]⟩
def Ai3:LC:=(sr [bX 5 2,A1 6 (.mv (.c (.bool false))),mn 7] (sr [fa 15 1 5,lb 16 1 15,kl 17 131 [(.t 16)],mt 14 17,ee 18 14 0,ee 19 14 1,mt 8 18,mt 9 19] (.seq (sr [mt 20 1,nc 21 20,fa 22 2 21,lb 23 1 22] (.cond (.t 23) (.reg [fa 25 1 5,lb 26 1 25,kl 27 132 [(.t 26)],mt 24 27,ee 28 24 0,ee 29 24 1,mt 8 28,mt 9 29]) .skip)) (.seq (sr [mt 30 9,A1 31 (.eq true true (.iface [74]) (.t 30) (.c .nili))] (.cond (.t 31) (sr [mt 32 9,A1 6 (.mv (.c (.bool false))),mt 7 32] .ret) .skip)) (sr [mt 34 8,mt 35 0,nc 36 35,fa 37 1 36,lb 38 1 37,nc 39 38,fa 40 1 39,lb 41 1 40,kl 42 359 [(.t 34),(.t 41)],mt 33 42,ee 43 33 0,ee 44 33 1,mt 10 43,mt 11 44] (.seq (sr [mt 46 1,mt 47 0,nc 48 47,fa 49 1 48,lb 50 1 49,mt 51 10,kl 52 154 [(.t 50),(.t 51)],mt 45 52,ee 53 45 0,ee 54 45 1,nc 55 46,fa 56 3 55,sb 32 56 53,mt 9 54] (sr [mt 57 9,A1 58 (.eq true true (.iface [74]) (.t 57) (.c .nili))] (.cond (.t 58) (sr [mt 59 9,A1 6 (.mv (.c (.bool false))),mt 7 59] .ret) .skip))) (.seq (sr [mt 60 0,nc 61 60,fa 62 2 61,lb 63 1 62,
  lN 64 0 63,
  mI 65 0] (.block 0 (.loop (sr [ak 66 .lss 65 64] (.seq (DJ 66 0) (.seq (.block 1 (sr [ia 67 42 63 65,la 68 42 67,A1 13 (.alloc zC),sb 42 13 68] (.seq (.regd [⟨0,0,fa 69 0 13⟩,⟨1,1,lb 70 1 69⟩,⟨2,0,mt 71 1⟩,⟨3,4,nc 72 71⟩,⟨4,12,fa 73 0 72⟩,⟨5,28,lb 74 1 73⟩,⟨6,63,ak 75 .eql 70 74⟩,⟨7,127,mt 76 75⟩,⟨8,255,A2 77 76 true (.fadr 1 (.t 13))⟩,⟨9,511,A2 78 76 true (.load false 1 (.t 77))⟩,⟨10,255,mg 79 76 true 8⟩,⟨11,2047,A2 80 76 true (.ari .eql (.t 78) (.t 79))⟩,⟨12,4095,HR 81 76 80⟩,⟨13,8191,mt 82 81⟩,⟨14,16383,A2 83 82 true (.fadr 2 (.t 13))⟩,⟨15,32767,A2 84 82 true (.load true 32 (.t 83))⟩,⟨16,16383,mg 85 82 true 1⟩,⟨17,81919,A2 86 82 true (.nilc (.t 85))⟩,⟨18,212991,A2 87 82 true (.fadr 3 (.t 86))⟩,⟨19,475135,A2 88 82 true (.load true 32 (.t 87))⟩,⟨20,1048575,A2 89 82 true (.eq false false (.ar 32 1 false .int) (.t 84) (.t 88))⟩,⟨21,2097151,HR 90 82 89⟩]) (.cond (.t 90) (sr [A1 6 (.mv (.c (.bool false))),mn 7] .ret) .skip)))) (.reg [aI 91 .add 65 1,mt 65 91]))))))) (sr [A1 6 (.mv (.c (.bool true))),mn 7] .ret))))))))
def Akw:LF:=⟨Ai3,3,0,92,[.tmp 6,.tmp 7]⟩
def Aak:LC:=(sr [bX 5 2,A1 6 (.mv (.c (.bool false))),mn 7] (.seq (sr [fa 10 38 5,lb 11 1 10] (.cond (.t 11) (sr [A1 6 (.mv (.c (.bool false))),mn 7] .ret) .skip)) (.seq (.regd [⟨0,0,fa 13 1 5⟩,⟨1,1,lb 14 1 13⟩,⟨2,0,mt 15 0⟩,⟨3,4,nc 16 15⟩,⟨4,12,fa 17 1 16⟩,⟨5,28,lb 18 1 17⟩,⟨6,60,nc 19 18⟩,⟨7,124,fa 20 1 19⟩,⟨8,252,lb 21 1 20⟩,⟨9,511,kl 22 359 [(.t 14),(.t 21)]⟩,⟨10,1023,mt 12 22⟩,⟨11,2047,ee 23 12 0⟩,⟨12,2047,ee 24 12 1⟩,⟨13,4095,mt 8 23⟩,⟨14,16383,mt 9 24⟩]) (.seq (sr [mt 25 9,A1 26 (.eq true true (.iface [74]) (.t 25) (.c .nili))] (.cond (.t 26) (sr [mt 27 9,A1 6 (.mv (.c (.bool false))),mt 7 27] .ret) .skip)) (.seq (sr [mt 28 1,nc 29 28,fa 30 2 29,lb 31 1 30] (.cond (.t 31) (.reg [mt 32 8,
  aU 33 .add 32 1,mt 8 33]) .skip)) (sr [mt 35 1,mt 36 0,nc 37 36,fa 38 1 37,lb 39 1 38,mt 40 8,kl 41 155 [(.t 39),(.t 40)],mt 34 41,ee 42 34 0,ee 43 34 1,nc 44 35,fa 45 35 44,sb 116 45 42,mt 9 43] (sr [mt 46 9,A1 6 (.mv (.c (.bool true))),mt 7 46] .ret)))))))
def f257:LF:=⟨Aak,3,0,47,[.tmp 6,.tmp 7]⟩
structure OkHv (M:Seat):Prop where
 a:OkHa M
 o:OkOs M
 g:OkGr M
 k155:Ar M 155 Aa4=true
 k254:Ar M 254 Agb=true
theorem Pi {M:Seat} (ok:OkHv M) (pres:List (Dg × Pr)) (l:List (Nat→BitVec 64)) :
 Ae M 155 [.ptr 0 [],W 0#64] (hB pres l) 13 (Q3 (Ai (DG (Cd BL.f 13 0) BL.h [BD BL.f 0#64] Pr.zero) .nili) (hB pres l) 13):=by
 have hR:=RI ok.a.r 1;have hP:=Xh ok.o BL pres 0;rw [Asm] at hP;dsimp only at hP;have hpv:P7 BL none [BD BL.f 0#64] Pr.zero=Ai (DG (Cd BL.f 13 0) BL.h [BD BL.f 0#64] Pr.zero) .nili:=rfl;rw [hpv] at hP;unfold hB;generalize Cb.com=C1 at *
 generalize Cd BL.f 13 0=R0 at *
 generalize [BD BL.f 0#64]=L0 at *
 simp only [Mc.v,Cb,mach] at hR;simp only [Mc.v,Mc.h,BL,mach,DG,Hd.v,Ba] at hP;refine Ab ok.k155 rfl fun x hx=>?_;refine eX ?_;simp only [Aa4,Ae4,Aw,BM,Dn,Mc.v,BL,Cb,CP,seval];refine RZ [0,1,2,3,4,5,6,7] [0,2,6] (hR) (by constructor <;> (try simp only [Aw,BM,LY,seval]) <;> first | exact q1 | (intro j hj;rcases (show j=0 ∨ j=1 by omega) with rfl | rfl <;> simp only [Nat.one_ne_zero,B4,LY,seval])) ?_;simp only [Aw,BM,BF,Bn,seval];repeat refine sd ?_
 have zz:=AY @a0c @Cg;refine By [4,5,8,9,10] [4,5,8] (hP) ?_;simp only [Je,Q2,seval];refine Ap.mk hx [0,1,2,3,4,5,6,7,8,9,10,11,12] [] (Ai (DG R0 BL.h L0 Pr.zero) .nili) _ 13 Al (by (simp only [Di,seval])) (by simp only [LV,Bb,DG,Mc.h,BL,Hd.v,Ba,dg,BW,BI,seval]) ?_ ⟨rfl,rfl,rfl⟩;simp only [LA,Fh,BF,Ah,seval];intro j hj;rcases (show j=0 ∨ j=1 by omega) with rfl | rfl <;> simp only [Nat.one_ne_zero,B4,LN,LP,V.ren,AU,AB,BZ,Ch,seval,LY]
def hC (pres:List (Dg × Pr)) (l:List (Nat→BitVec 64)):Hp:=[(4,Aw (.sl 6 [] 0 2 3) 1 (.map 7) (.map 5)),(5,Et l),(6,.ar 3 2 fun j=>if j=0 then BM 0#64 8 9 else BM 1#64 10 11),(7,LA Cb.com),(8,BL.v),(9,Dn 12 13 14),(10,Cb.v),(11,Dn 15 13 16),(12,BG AL Pr.zero pres),(14,Cs []),(15,BG AL Pr.zero pres),(16,Cs [])]
def vwV (n:Nat) (own:Int):V:=.st 5 (.fcons 0 (.ptr 0 []) (.fcons 1 (.ptr 4 []) (.fcons 2 (.sl 18 [] 0 n 42) (.fcons 3 (.sl 19 [] 0 n 1) (.fcons 4 (.int .i64 own) .fnil)))))
theorem Wm {M:Seat} (ok:OkHv M) (k359:Ar M 359 M2=true) (pres:List (Dg × Pr)) (l:List (Nat→BitVec 64)) (G:Gs) (hD:G.D=1) (hn:G.n=1) (hp:(G.c 0).pos=1#64) (hv:(G.c 0).val=Cb.com) :
 Ae M 254 [.ptr 0 [],.ptr 4 []] (G.H ++ hC pres l) 17 (Q3 (Ai (.ptr 17 []) .nili) (G.H ++ hC pres l ++ [(17,vwV 1 0),(18,Au 1 G.c),(19,.ar 1 1 fun _=>.bool true)]) 20):=by
 have hRu:=EW ok.g G.D G.l G.g G.s G.n;have hLn:=E4 ok.g G.D G.l G.g G.s G.n;have hC0:=CS ok.g G.D G.l G.g G.s G.n G.c 0 Aa;have hT:=Cy ok.g.t.s.v.g.p k359 (D:=1) (k:=0) (i:=0) Al Al Al;rw [show pw 0 0=1#64 by decide,show BitVec.ofNat 64 (E3 1 0 0)=1#64 by decide] at hT;have hA:=K9 ok.a pres l;rw [hD,hn] at hRu hLn hC0;unfold hC;unfold hB at hA;generalize Cb.com=C1 at *
 simp only [Mc.v,BL,Cb,mach,Aw,BM,Dn] at hA;refine Ab ok.k254 rfl fun x hx=>?_;refine eX ?_;simp only [Agb,Agt,Gs.H,hD,hn,As,Av,Ad,Au,Cl.v,A6,AQ,AM,Aw,BM,Dn,Mc.v,BL,Cb,CP,B3,seval];have z1:IntKind.i64.wrap 1=1:=rfl;have zz:=D0 @c9 @c8 @b9 @b7;refine G6 [0,1,2] [0] (hRu) ?_;simp only [As,Av,Ad,Au,Cl.v,A6,AQ,AM,Aw,BM,Dn,LZ,seval];have zz:=D0 @c9 @c8 @b9 @b7;refine By [0,1,2] [0] (hLn) ?_;simp only [As,Av,Ad,Au,Cl.v,A6,AQ,AM,Aw,BM,Dn,LZ,seval];refine A5 ?_;refine eX ?_;simp only [As,Av,Ad,Au,Cl.v,A6,AQ,AM,Aw,BM,Dn,LZ,seval];have zz:=Gb @c9 @c8 @b9 @f7 @b8 @b7;refine By [0,1,2] [0,1] (hC0) ?_;simp only [Bb,hp,hv,As,Av,Ad,Au,Cl.v,A6,AQ,AM,Aw,BM,Dn,seval];refine AO (hT) ?_;simp only [Bb,As,Av,Ad,Au,Cl.v,A6,AQ,AM,Aw,BM,Dn,seval];refine RZ [4,5,6,7,8,9,10,11,12,13,14,15,16] [4,5,6,7,8,9,10,11,12,14,15,16] (hA) (by constructor <;> (try simp only [LA,Ah,Fh,seval]) <;> first | exact q1 | (intro j hj;rcases (show j=0 ∨ j=1 by omega) with rfl | rfl <;> simp only [Nat.one_ne_zero,B4,LY,seval])) ?_;simp only [Cz,BF,AE,A3,decide_true,z1,LA,Nat.testBit,List.map_nil,List.map_cons,B3,As,Av,Ad,Au,Cl.v,A6,AQ,AM,Aw,BM,Dn,seval];repeat refine sd ?_
 refine A5 ?_;refine eX ?_;simp only [z1,As,Av,Ad,Au,Cl.v,A6,AQ,AM,Aw,BM,Dn,LZ,seval];repeat refine sd ?_
 refine Ap.mk hx [0,1,2,3,4,5,6,7,8,9,10,11,12,13,14,15,16,497,1857,2017] [] (Ai (.ptr 17 []) .nili) _ 20 Al (by (simp only [Di,seval])) (by simp only [LV,Bb,seval,LY]) ?_ ⟨rfl,rfl,rfl⟩;simp only [vwV,LA,Fh,BF,Ah,As,Av,Ad,Au,Cl.v,A6,AQ,AM,Aw,BM,Dn,seval];refine ⟨fun j hj=>?_,fun j hj=>?_,fun j hj=>?_⟩
 ·rcases (show j=0 ∨ j=1 by omega) with rfl | rfl <;> simp only [Nat.one_ne_zero,B4,LN,LP,V.ren,AU,AB,BZ,Ch,seval,LY]
 ·obtain rfl:j=0:=Aa;simp only [if_true,hp,hv,LY,seval]
 ·rw [if_pos Aa]
def Hf {α:Type} (g:α→V) (d:α) (l:List (Dg × α)):V:=.fm l.length (fun j=>dg (l.getD j (Dg.zero,d)).1) (fun j=>g (l.getD j (Dg.zero,d)).2)
theorem UN {α:Type} (H:Hp) (m z:List Nat) (g:α→V) (hg:∀ x,Ay H m z (g x) (g x)) (d:α) (l:List (Dg × α)):Ay H m z (Hf g d l) (Hf g d l) :=
 ⟨rfl,fun i _=>⟨(AJ _ _ _ _ _).mpr rfl,hg _⟩⟩
theorem Vs {α:Type} (H:Hp) (m z:List Nat) (i:Nat) (g:α→V) (hg:∀ x,Ay H m z (g x) (g x)) (d:α) (l:List (Dg × α)) (h1:z.contains i=true) (h2:Ag H i=true) (h3:hget H i=BG g d l):Ay H m z (Hf g d l) (.map i):=by
 unfold Hf;simp only [Ay];refine ⟨?_,?_⟩
 ·unfold TQ;rw [h1,h2,h3];rfl
 ·rw [h3];exact ⟨rfl,fun i _=>⟨(AJ _ _ _ _ _).mpr rfl,hg _⟩⟩
theorem UQ {α:Type} (m:List Nat) (g:α→V) (hg:∀ x,(g x).ren m=g x) (d:α) (l:List (Dg × α)):(Hf g d l).ren m=Hf g d l:=by
 simp only [Hf,V.ren]
 congr 1
 funext j;exact hg _
theorem AT (H:Hp) (m z:List Nat) (l:List (Dg × Pr)):Ay H m z (Hf AL Pr.zero l) (Hf AL Pr.zero l)=True:=eq_true (UN H m z AL (fun _=>(DX _ _ _ _ _).mpr rfl) Pr.zero l)
theorem Bs (H:Hp) (m z:List Nat) (l:List (Dg × Bool)):Ay H m z (Hf V.bool false l) (Hf V.bool false l)=True:=eq_true (UN H m z V.bool (fun _=>rfl) false l)
theorem E9 (m:List Nat) (l:List (Dg × Pr)):(Hf AL Pr.zero l).ren m=Hf AL Pr.zero l:=UQ m AL (fun _=>rfl) Pr.zero l
theorem FJ (m:List Nat) (l:List (Dg × Bool)):(Hf V.bool false l).ren m=Hf V.bool false l:=UQ m V.bool (fun _=>rfl) false l
theorem Wg (H:Hp) (m z:List Nat) (l:List (Dg × Pr)):Bz H m z (Hf AL Pr.zero l) (Hf AL Pr.zero l)=True:=AT H m z l
theorem Bj {α:Type} (g:α→V) (d:α) (l:List (Dg × α)):(Hf g d l).solid=true:=rfl
theorem B2 {α:Type} (g:α→V) (d:α) (l:List (Dg × α)):(Hf g d l).size=1:=rfl
theorem BK {α:Type} (g:α→V) (d:α) (l:List (Dg × α)):(Hf g d l).isAgg=false:=rfl
theorem Am6 (c:Bool) (l:List (Dg × Pr)):AR c (.nils 1) (Hf AL Pr.zero l) .nilm=True:=by simp [AR,Hf]
theorem Alp (l:List (Dg × Pr)):AX (.nils 1) (Hf AL Pr.zero l) .nilm=false:=rfl
theorem Acf (t n:Nat) (l:List (Dg × Pr)) (H:Hp):Aer (.ifc t (Hf AL Pr.zero l)) n H=⟨True,.ifc t (.map n),(n,BG AL Pr.zero l) :: H⟩:=rfl
theorem Uz {α:Type} (g:α→V) (d:α) (l:List (Dg × α)):Ho (Hf g d l)=True:=by simp [Ho,Hf,V.solid]
theorem UD {α:Type} (g:α→V) (d:α) (l:List (Dg × α)) (i:Nat) (r:V):Kf (Hf g d l) i r = .fcons i (Hf g d l) r:=rfl
def Dt (pres:List (Dg × Pr)) (K:Nat) (sl:List (Dg × Bool)) (n:Nat) (q:Nat→Dg):V:=.st 4 (.fcons 0 (Hf AL Pr.zero pres) (.fcons 1 (.ptr K []) (.fcons 2 (Hf V.bool false sl) (.fcons 3 (.lst 32 n fun i=>dg (q i)) .fnil))))
theorem Kh {M:Seat} (ok:OkPr M) (l:List (Dg × Pr)) :
 Ae M 276 [Hf AL Pr.zero l] [] 0 (Q3 (.map 0) [(0,BG AL Pr.zero l)] 1):=by
 refine Ab ok.k276 rfl fun x hx=>?_;refine eX ?_;simp only [Al0,Am2,Am6,Alp,Acf,Bj,B2,BK,Uz,UD,LZ,seval];have zz:=@Cg;exact AI hx [80] ⟨rfl,rfl,rfl⟩
theorem JM {M:Seat} (ok:OkPr M) (pres:List (Dg × Pr)) (sl:List (Dg × Bool)) (n:Nat) (q:Nat→Dg) :
 Ae M 167 [.imm (Dt pres 0 sl n q)] [] 1
  (Q3 (.ptr 1 []) [(1,.st 4 (.fcons 0 (.map 2) (.fcons 1 (.ptr 0 []) (.fcons 2 (.map 3) (.fcons 3 .nils .fnil))))),(2,BG AL Pr.zero pres),(3,Cs [])] 4):=by
 refine Ab ok.k167 rfl fun x hx=>?_;refine eX ?_;simp only [Alq,Ak7,Dt,Bj,B2,BK,Uz,UD,LZ,seval];have zz:=Cv @Wg @AT @Cg;refine ofY (Kh ok pres) ?_;simp only [Bn,seval];have zz:=AY @Cs.eq_1 @Cg;exact AI hx [0,225,321,193] ⟨rfl,rfl,rfl⟩
def j9:=@Dt.eq_1
theorem M0 {M:Seat} (ok:OkHo M) (f g:Nat→BitVec 64) (pc:BitVec 64) (hl:Bool) (xt:BitVec 64) (n:Nat) (d:Int) (l:List (Nat→BitVec 64)) :
 Ae M 274 [.ptr 0 [],.imm (mach f g pc hl xt)] [(0,Aw (.sl 2 [] 0 n 3) d (.map 3) (.map 1)),(1,Et l)] 4 (Q3 (Ai (dg (BP (Cd f 13 0) (D2 g pc hl xt))) .nili) [(0,Aw (.sl 2 [] 0 n 3) d (.map 3) (.map 1)),(1,Et (oK f l 256))] 4):=by
 have hP:=fun i=>NB ok.p (WE f i) n d (oK f l i);have hR:=GR ok.p.m 8 Al (rtL f) (by rw [GF];decide);rw [Kr f 8 0 Al] at hR;have hH:=Dz ok.d f g pc hl xt;have hJ:=DV ok.p.m ok.d (Cd f (5 + 8) 0) g pc hl xt;simp only [mach,Ba] at hH hJ;refine Ab ok.k274 rfl fun x hx=>?_;refine eX ?_;simp only [Alr,Aj5,Aw,CP,seval];have w32:IntKind.i64.wrap 32=32:=rfl;have hP0:=hP 0;have e00:∀ j,WE f 0 j=f (0 + j):=fun j=>by rw [WE,Nat.mul_zero]
 refine A5 ?_;refine eX ?_;simp only [w32,Aw,CP,seval];repeat refine sd ?_
 have zz:=Qe @g8 @Hx.eq_1 @WE.eq_1 @oK.eq_1 @oK.eq_2 Nat.mul_zero @Nat.zero_add @Ah;refine By [0,1,2,3] [0,1] (hP0) ?_;simp only [Aw,AE,w32,Bn,seval];repeat refine sd ?_
 refine Am (σ:=Nat) (fun i=>1≤i∧i≤256) (fun i=>fr 44 [(0,.ptr 0 []),(1,.imm (mach f g pc hl xt)),(4,.ptr 4 []),(5,.nili),(6,.sl 5 [] 0 i 32),(7,.int .i64 ((32 * i:Nat):Int))])
  (fun i=>[(0,Aw (.sl 2 [] 0 n 3) d (.map 3) (.map 1)),(1,Et (oK f l i)),(4,dg Dg.zero),(5,.ar 32 i fun j=>dg (Cd f 5 j))]) (fun _=>6) (fun i=>256 - i) 1 ⟨by omega,by omega⟩ ?_ ?_
 ·refine Ak.fr [0,1,2,3,4,308] [] hx AG Al ?_ ?_
  ·simp only [mach,Nat.mul_one,seval,Int.cast_ofNat_Int,LY,reduceCtorEq]
  ·simp only [Aw,oK,Ah,mach,K3 f 0 Al,dg,Dg.at_zero,LY,seval];intro j hj;obtain rfl:j=0:=Aa;simp only [if_true,LY,seval]
 ·rintro i ⟨h1,hi⟩;refine eX ?_;by_cases h256:i=256
  ·subst h256;have d0:(((32 * 256:Nat):Int) < 8192)=False:=eq_false Aa;simp only [d0,Aw,CP,seval];refine cpK (hR) (by (try simp only [row,GF,Fw,dg,LY,seval]) <;> first | exact q1 | (intro j hj q _;rw [Tw f j hj])) (by simp only [row,GF,Fw,dg,LX]) ?_;simp only [Bb,Aw,mach,seval];have zz:=EZ @b7 @l9 @AF.eq_2 @AF.eq_3 @AF.eq_4 @AF.eq_5 @AF.eq_6 @AF.eq_7 @AF.eq_8 @AF.eq_9 @AF.eq_10 @AF.eq_11;refine Dh (hH) ?_;simp only [Bb,Aw,mach,seval];have zz:=@b7;refine Dh (hJ) ?_;simp only [Aw,CP,seval];have zz:=D0 @g8 @Ah @b7 @d9;exact AI hx [0,1,2,3] ⟨rfl,rfl,rfl⟩
  ·have d0:(((32 * i:Nat):Int) < 8192)=True:=eq_true Aa;have d1:(0≤((32 * i:Nat):Int))=True:=eq_true Aa;have w3:IntKind.i64.wrap (((32 * i:Nat):Int) + 32)=((32 * (i + 1):Nat):Int):=AW;have hPi:=hP i;simp only [d0,d1,w3,Aw,CP,seval];repeat refine sd ?_
   have zz:=D0 @g8 @Hx.eq_1 @WE.eq_1 @Ah;refine By [0,1,2,3] [0,1] (hPi) ?_;simp only [w3,Aw,AE,Bn,seval];repeat refine sd ?_
   refine ⟨i + 1,by omega,by omega,by omega,?_⟩;refine Ak.fr [0,1,2,3,4,246] [] hx AG Al ?_ ?_
   ·simp only [mach,LY,seval]
   ·simp only [Aw,oK,Ah,mach,K3 f i Aa,dg,LY,seval];intro j hj;by_cases hji:j < i
    ·simp only [hji,if_true,LY,seval]
    ·obtain rfl:j=i:=Aa;simp only [Nat.lt_irrefl,Nat.sub_self,B4,LY,seval]
end Mv
