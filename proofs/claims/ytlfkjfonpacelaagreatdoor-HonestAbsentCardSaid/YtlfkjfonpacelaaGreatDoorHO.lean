/- A part. -/
import Derived.Test.YtlfkjfonpacelaaGreatDoorGZ
import Derived.Test.YtlfkjfonpacelaaGreatDoorHN
set_option linter.all false
set_option maxRecDepth 20000
set_option maxHeartbeats 8000000
namespace Mv
open Go
variable {M:Seat}
structure OkLd (M:Seat):Prop where
 k222:Ar M 222 Amn=true
 k223:Ar M 223 Aj5=true
 k250:Ar M 250 Ad0=true
 k258:Ar M 258 Amq=true
 k355:Ar M 355 Als=true
def AA (b:Nat→BitVec 64) (i o:BitVec 64) (bs:V) (k:BitVec 64):V:=.st 12 (.fcons 0 (.ar 1 8 fun j=>W (b j)) (.fcons 8 (W i) (.fcons 9 (W o) (.fcons 10 bs (.fcons 11 (W k) .fnil)))))
theorem OE (ok:OkLd M):Ae M 222 [] [] 0 (Q3 (.ptr 0 []) [(0,AA (fun _=>0#64) 0#64 0#64 .nils 0#64)] 1):=by
 refine Ab ok.k222 rfl fun x hx=>?_
 refine es 2000 ?_;(simp only [Amn,Aoi,LZ,seval])
 refine Aq.mk hx [32] [] (.ptr 0 []) [(0,AA (fun _=>0#64) 0#64 0#64 .nils 0#64)] 1 Am (by (simp only [Db,AA,seval])) (by simp only [LV,AA,LY,seval]) (by simp only [AA,LY,seval]) ⟨rfl,rfl,rfl⟩
theorem ER (ok:OkLd M) (p:Nat) (hp:p < 8):Ae M 258 [.ptr 0 [],.int .i64 p] [] 1 (Q3 .nili [] 1):=by
 refine Ab ok.k258 rfl fun x hx=>?_
 have e0:((p:Int) < 0)=False:=eq_false Aa
 have e1:((8:Int)≤(p:Int))=False:=eq_false Aa
 refine es 2000 ?_;(simp only [Amq,Ai5,e0,e1,LZ,seval])
 exact Aq.mkZ hx [0] ⟨rfl,rfl,rfl⟩
theorem Rw (ok:OkLd M) (b:Nat→BitVec 64) (i o:BitVec 64) (k:BitVec 64) (p:Nat) (hp:p < 8) (v:BitVec 64) (h1:¬ 281474976710656#64 < v) (h2:¬ 281474976710656#64 < i + v) :
 Ae M 223 [.ptr 0 [],.int .i64 p,W v] [(0,AA b i o .nils k)] 1 (Q3 .nili [(0,AA (fun j=>if j=p then b p + v else b j) (i + v) o .nils k)] 1):=by
 refine Ab ok.k223 rfl fun x hx=>?_
 have e0:((p:Int) < 0)=False:=eq_false Aa
 have e1:((p:Int) < 8)=True:=eq_true Aa
 have e2:(0≤(p:Int))=True:=eq_true Aa
 refine es 2000 ?_;(simp only [Aj5,Ak2,AA,LZ,seval])
 refine R6 [0] [] (ER ok p hp) (by constructor <;> (try simp only [LY,seval]) <;> exact q1) (by simp only [LX]) ?_
 (simp only [AA,h1,h2,e0,e1,e2,LZ,seval])
 repeat refine sd ?_
 refine Aq.mk hx [0] [] .nili [(0,AA (fun j=>if j=p then b p + v else b j) (i + v) o .nils k)] 1 Am (by (simp only [Db,AA,seval])) (by simp only [LV,AA,LY,seval]) ?_ ⟨rfl,rfl,rfl⟩
 simp only [AA,LY,seval]
 intro j hj
 by_cases h:j=p <;> simp only [h,C8,LY,seval]
def AU (v:BitVec 64) (g:Bool):V:=.st 2 (.fcons 0 (W v) (.fcons 1 (.bool g) .fnil))
theorem L1 (ok:OkLd M) (b:Nat→BitVec 64) (i o:BitVec 64) (bs:V) (n:Nat) (hbs:(bs = .nils∧n=1) ∨ ∃ m,bs = .sl 1 [] 0 m 2∧n=2) (k:BitVec 64) (p:Nat) (hp:p < 8) (v:BitVec 64) (h1:¬ b p < v) :
 Ae M 355 [.ptr 0 [],.int .i64 p,W v] [(0,AA b i o bs k)] n (Q3 .nili [(0,AA (fun j=>if j=p then b p - v else b j) i o bs k)] n):=by
 refine Ab ok.k355 rfl fun x hx=>?_
 have e0:((p:Int) < 0)=False:=eq_false Aa
 have e1:((p:Int) < 8)=True:=eq_true Aa
 have e2:(0≤(p:Int))=True:=eq_true Aa
 rcases hbs with ⟨rfl,rfl⟩ | ⟨m,rfl,rfl⟩
 all_goals
  refine es 2000 ?_;(simp only [Als,Amc,AA,LZ,seval])
  refine R6 [0] [] (ER ok p hp) (by constructor <;> (try simp only [LY,seval]) <;> exact q1) (by simp only [LX]) ?_
  (simp only [AA,h1,e0,e1,e2,LZ,seval])
  repeat refine sd ?_
 ·refine Aq.mk hx [0] [] .nili [(0,AA (fun j=>if j=p then b p - v else b j) i o .nils k)] 1 Am (by (simp only [Db,AA,seval])) (by simp only [LV,AA,LY,seval]) ?_ ⟨rfl,rfl,rfl⟩
  simp only [AA,LY,seval]
  intro j hj
  by_cases h:j=p <;> simp only [h,C8,LY,seval]
 ·refine Aq.mk hx [0,1] [] .nili [(0,AA (fun j=>if j=p then b p - v else b j) i o (.sl 1 [] 0 m 2) k)] 2 Am (by (simp only [Db,AA,seval])) (by simp only [LV,AA,LY,seval]) ?_ ⟨rfl,rfl,rfl⟩
  simp only [AA,LY,seval]
  intro j hj
  by_cases h:j=p <;> simp only [h,C8,LY,seval]
theorem Rl (ok:OkLd M) (b:Nat→BitVec 64) (i o:BitVec 64) (k:BitVec 64) (p:Nat) (hp:p < 8) (v:BitVec 64) (h1:¬ b p < v) :
 Ae M 250 [.ptr 0 [],.int .i64 p,W v] [(0,AA b i o .nils k)] 1 (Q3 (Ag (.int .i64 0) .nili) [(0,AA (fun j=>if j=p then b p - v else b j) i o (.sl 1 [] 0 1 2) (k + v)),(1,.ar 2 1 fun _=>AU v false)] 2):=by
 refine Ab ok.k250 rfl fun x hx=>?_
 have z0:IntKind.i64.wrap 0=0:=rfl
 refine es 2000 ?_;(simp only [Ad0,Agv,AA,LZ,seval])
 have zz:=@AA.eq_1;refine cbY [0] [0] (L1 ok b i o .nils 1 (.inl ⟨rfl,rfl⟩) k p hp v h1) ?_
 (simp only [AA,z0,LZ,seval])
 refine Aq.mk hx [0,369] [] (Ag (.int .i64 0) .nili) [(0,AA (fun j=>if j=p then b p - v else b j) i o (.sl 1 [] 0 1 2) (k + v)),(1,.ar 2 1 fun _=>AU v false)] 2 Am (by (simp only [Db,AA,seval])) (by simp only [LV,AA,Ag,LY,seval]) ?_ ⟨rfl,rfl,rfl⟩
 simp only [AA,AU,LY,seval]
 intro j hj
 obtain rfl:j=0:=Aa
 simp only [if_true,LY,seval]
theorem Rn (ok:OkLd M) (b:Nat→BitVec 64) (i o:BitVec 64) (k:BitVec 64) (p:Nat) (hp:p < 8) (v:BitVec 64) (h1:¬ b p < v) (m:Nat) (hm:m < 1000) (f:Nat→V) (hf:∀ j,∃ u g,f j=AU u g) :
 Ae M 250 [.ptr 0 [],.int .i64 p,W v] [(0,AA b i o (.sl 1 [] 0 m 2) k),(1,.ar 2 m f)] 2 (Q3 (Ag (.int .i64 m) .nili) [(0,AA (fun j=>if j=p then b p - v else b j) i o (.sl 2 [] 0 (m + 1) 2) (k + v)),(2,.ar 2 (m + 1) fun j=>if j < m then f j else AU v false)] 3):=by
 refine Ab ok.k250 rfl fun x hx=>?_
 have z0:IntKind.i64.wrap ((m + 1:Nat) - 1:Int)=(m:Int):=Br
 have z1:((65536:Int)≤(m:Int))=False:=eq_false Aa
 refine es 2000 ?_;(simp only [Ad0,Agv,AA,LZ,seval])
 have zz:=@AA.eq_1;refine cbY [0,1] [0] (L1 ok b i o (.sl 1 [] 0 m 2) 2 (.inr ⟨m,rfl,rfl⟩) k p hp v h1) ?_
 (simp only [AA,z0,z1,LZ,seval])
 repeat refine sd ?_
 refine Aq.mk hx [0,1,370] [] (Ag (.int .i64 m) .nili) [(0,AA (fun j=>if j=p then b p - v else b j) i o (.sl 2 [] 0 (m + 1) 2) (k + v)),(2,.ar 2 (m + 1) fun j=>if j < m then f j else AU v false)] 3 Am (by (simp only [Db,AA,seval])) (by simp only [LV,AA,Ag,LY,seval]) ?_ ⟨rfl,rfl,rfl⟩
 simp only [AA,AU,LY,seval]
 intro j hj
 by_cases h:j < m
 ·obtain ⟨u,g,e⟩:=hf j
  rw [if_pos h,if_pos h,e];simp only [AU,LY,seval]
 ·rw [if_neg h,if_neg h,if_pos Aa];simp only [LY,seval]
def KX (v:BitVec 64):Nat→BitVec 64
 | 0=>0#64
 | n + 1=>KX v n + v
def DX (v:BitVec 64) (n j:Nat):BitVec 64:=if j < n then v else 0#64
structure OkPo (M:Seat):Prop where
 p:OkP M
 k130:Ar M 130 Afa=true
 k131:Ar M 131 Ai0=true
 k132:Ar M 132 An1=true
 k260:Ar M 260 Ald=true
theorem I5 {M:Seat} (ok:OkPo M):Ae M 130 [W 1#64] [] 0 (Q3 (Cz (.int .i64 0) (W 0#64) .nili) [] 0):=by
 have h:=G4 ok.p 1#64
 rw [show CY 1#64=1 by decide] at h
 refine Ab ok.k130 rfl fun x hx=>?_
 have z0:IntKind.i64.wrap 0=0:=rfl
 refine es 2000 ?_;(simp only [Afa,Ahq,LZ,seval])
 refine Al (h) ?_
 (simp only [z0,Lbp,seval])
 have zz:=@Cz.eq_1;exact Bu hx [] ⟨rfl,rfl,rfl⟩
def Amp:LC:=(sr [mU 4 0,mn 5] (.seq (sr [mt 7 0,mt 8 1,kl 9 258 [(.t 7),(.t 8)],mt 6 9] (sr [mt 10 6,A1 11 (.eq true true (.iface [74]) (.t 10) (.c .nili))] (.cond (.t 11) (sr [mt 12 6,
  mU 4 0,mt 5 12] .ret) .skip))) (sr [mt 13 0,mt 14 1,nc 15 13,fa 16 0 15,ib 17 8 1 16 14,lb 18 1 17,mt 4 18,mn 5] .ret)))
def Aju:LF:=⟨Amp,2,0,19,[.tmp 4,.tmp 5]⟩
def Xb:LC:=(sr [mn 6] (.seq (.block 0 (sr [mt 15 1,aI 16 .lss 15 0,mt 17 16,mg 18 17 false 1,mg 19 17 false 0,A2 20 17 false (.nilc (.t 19)),A2 21 17 false (.fadr 36 (.t 20)),A2 22 17 false (.load false 1 (.t 21)),A2 23 17 false (.len 0 (.t 22)),A2 24 17 false (.ari .geq (.t 18) (.t 23)),
  Di 25 17 24,mt 14 25] (.cond (.t 14) (sr [A1 26 (.mkif 74 (cI 4)),mt 6 26] .ret) (sr [mt 28 0,nc 29 28,fa 30 36 29,lb 31 1 30,mt 32 1,ia 33 42 31 32,fa 34 39 33,lb 35 1 34,mt 27 35] (.cond (.t 27) (sr [A1 36 (.mkif 74 (cI 41)),mt 6 36] .ret) .skip))))) (sr [mt 37 0,nc 38 37,fa 39 36 38,lb 40 1 39,mt 41 1,ia 42 42 40 41,la 43 42 42,A1 7 (.alloc (.st (.cons (.int .i64) (.cons (.int .u64) (.cons (.ar 32 (.int .u8)) (.cons (.int .i64) (.cons (.int .i64) (.cons (.st (.cons (.int .u64) (.cons (.int .u64) .nil))) (.cons .bool (.cons .bool (.cons .bool (.cons (.int .i64) .nil)))))))))))),sb 42 7 43] (sr [A1 44 (.build (.st (.cons (.int .i64) (.cons (.int .u64) (.cons (.ar 32 (.int .u8)) (.cons (.int .i64) (.cons (.int .i64) (.cons (.st (.cons (.int .u64) (.cons (.int .u64) .nil))) (.cons .bool (.cons .bool (.cons .bool (.cons (.int .i64) .nil))))))))))) []),A1 8 (.alloc (.st (.cons (.int .i64) (.cons (.int .u64) (.cons (.ar 32 (.int .u8)) (.cons (.int .i64) (.cons (.int .i64) (.cons (.st (.cons (.int .u64) (.cons (.int .u64) .nil))) (.cons .bool (.cons .bool (.cons .bool (.cons (.int .i64) .nil)))))))))))),sb 42 8 44,A1 9 (.mv (.c (.bool false)))] (.seq (sr [mt 45 0,nc 46 45,fa 47 36 46,lb 48 1 47,
  lN 49 0 48,
  mI 50 0] (.block 1 (.loop (sr [ak 51 .lss 50 49] (.seq (Ew 51 1) (.seq (.block 2 (sr [ia 52 42 48 50,la 53 42 52,A1 11 (.alloc (.st (.cons (.int .i64) (.cons (.int .u64) (.cons (.ar 32 (.int .u8)) (.cons (.int .i64) (.cons (.int .i64) (.cons (.st (.cons (.int .u64) (.cons (.int .u64) .nil))) (.cons .bool (.cons .bool (.cons .bool (.cons (.int .i64) .nil)))))))))))),sb 42 11 53] (.block 3 (sr [fa 55 0 11,lb 56 1 55,mt 57 1,ak 58 .neq 56 57,mt 54 58] (.cond (.t 54) (.exit 2) (sr [fa 60 39 11,lb 61 1 60,A1 62 (.un .not (.t 61)),mt 59 62] (.cond (.t 59) (sr [A1 63 (.mkif 74 (cI 44)),mt 6 63] .ret) (sr [fa 65 40 11,lb 66 1 65,A1 67 (.un .not (.t 66)),mt 68 67,mg 69 68 true 9,A2 70 68 true (.un .not (.t 69)),mg 71 68 true 70,A2 72 71 false (.fadr 1 (.t 11)),A2 73 71 false (.load false 1 (.t 72)),A2 74 71 false (.fadr 1 (.t 8)),A2 75 71 false (.load false 1 (.t 74)),A2 76 71 false (.ari .lss (.t 73) (.t 75)),A2 77 68 true (.pick (.t 71) (.c (.bool true)) (.t 76)),
  HX 78 68 77,mt 64 78] (.cond (.t 64) (.reg [la 79 42 11,sb 42 8 79,A1 9 (.mv (.c (.bool true)))]) .skip))))))))) (.reg [aI 80 .add 50 1,mt 50 80]))))))) (sr [mt 82 0,la 83 42 7,mt 84 2,kl 85 357 [(.t 82),(.t 83),(.t 84)],mt 81 85,ee 86 81 0,ee 87 81 1,mt 12 86,mt 13 87] (.seq (.block 4 (sr [mt 89 13,A1 90 (.eq true true (.iface [74]) (.t 89) (.c .nili)),mt 88 90] (.cond (.t 88) (sr [mt 91 13,mt 6 91] .ret) (sr [mt 93 12,A1 94 (.un .not (.t 93)),mt 92 94] (.cond (.t 92) (sr [A1 95 (.mkif 74 (cI 44)),mt 6 95] .ret) .skip))))) (sr [fa 96 38 7,lb 97 1 96,mt 98 97,mg 99 98 false 9,
  Di 100 98 99,fa 101 39 7,A0 (.store 1 (.t 101) (.c (.bool true))),fa 102 40 7,sb 1 102 100] (.seq (sr [mt 103 9,mt 104 103,A2 105 104 true (.fadr 38 (.t 7)),A2 106 104 true (.load false 1 (.t 105)),A2 107 104 true (.un .not (.t 106)),
  HX 108 104 107] (.cond (.t 108) (.reg [fa 109 34 8,lb 110 1 109,fa 111 41 7,sb 1 111 110]) .skip)) (.seq (.regd [⟨0,0,mt 112 0⟩,⟨1,1,nc 113 112⟩,⟨2,3,fa 114 36 113⟩,⟨3,7,lb 115 1 114⟩,⟨4,0,mt 116 1⟩,⟨5,0,la 117 42 7⟩,⟨6,63,ia 118 42 115 116⟩,⟨7,127,sb 42 118 117⟩]) (.seq (.regd [⟨0,0,mt 119 0⟩,⟨1,1,nc 120 119⟩,⟨2,3,fa 121 35 120⟩,⟨3,7,lb 122 1 121⟩,⟨4,0,fa 123 35 7⟩,⟨5,16,lb 124 1 123⟩,⟨6,0,fa 125 41 7⟩,⟨7,64,lb 126 1 125⟩,⟨8,255,kl 127 358 [(.t 122),(.t 124),(.t 126)]⟩,⟨9,511,mt 6 127⟩]) .ret)))))))))))
def X2:LF:=⟨Xb,3,0,128,[.tmp 6]⟩
def Af5:LC:=(sr [bX 4 1,A1 6 (.mv (.c (.bool false))),mn 7] (.seq (.regd [⟨7,0,mt 15 0⟩,⟨8,0,la 16 42 4⟩,⟨9,3,kl 17 354 [(.t 15),(.t 16)]⟩,⟨0,0,mt 8 0⟩,⟨1,8,nc 9 8⟩,⟨2,24,fa 10 0 9⟩,⟨3,56,fa 11 1 10⟩,⟨4,120,la 12 2 11⟩,⟨5,0,fa 13 36 4⟩,⟨6,256,la 14 2 13⟩,⟨10,0,mt 18 2⟩,⟨11,2047,kl 19 455 [(.t 12),(.t 14),(.t 17),(.t 18)]⟩,⟨12,4095,ee 20 19 0⟩,⟨13,4095,ee 21 19 1⟩,⟨14,16383,mt 6 20⟩,⟨15,32767,mt 7 21⟩]) .ret))
def Adc:LF:=⟨Af5,3,0,22,[.tmp 6,.tmp 7]⟩
def Alx:LC:=(sr [mn 6] (.seq (sr [mt 8 0,mt 9 2,kl 10 258 [(.t 8),(.t 9)],mt 7 10] (sr [mt 11 7,A1 12 (.eq true true (.iface [74]) (.t 11) (.c .nili))] (.cond (.t 12) (sr [mt 13 7,mt 6 13] .ret) .skip))) (.seq (.block 0 (sr [mt 15 1,aI 16 .lss 15 0,mt 17 16,mg 18 17 false 1,mg 19 17 false 0,A2 20 17 false (.nilc (.t 19)),A2 21 17 false (.fadr 10 (.t 20)),A2 22 17 false (.load false 1 (.t 21)),A2 23 17 false (.len 0 (.t 22)),A2 24 17 false (.ari .geq (.t 18) (.t 23)),
  Di 25 17 24,mt 14 25] (.cond (.t 14) (sr [A1 26 (.mkif 74 (cI 4)),mt 6 26] .ret) (sr [mt 28 0,nc 29 28,fa 30 10 29,lb 31 1 30,mt 32 1,ia 33 2 31 32,fa 34 1 33,lb 35 1 34,mt 27 35] (.cond (.t 27) (sr [A1 36 (.mkif 74 (cI 41)),mt 6 36] .ret) .skip))))) (sr [mt 37 0,nc 38 37,fa 39 10 38,lb 40 1 39,mt 41 1,ia 42 2 40 41,fa 43 1 42,A0 (.store 1 (.t 43) (.c (.bool true)))] (.seq (.regd [⟨0,0,mt 44 0⟩,⟨1,1,nc 45 44⟩,⟨2,3,fa 46 11 45⟩,⟨3,7,lb 47 1 46⟩,⟨4,0,mt 48 0⟩,⟨5,16,nc 49 48⟩,⟨6,48,fa 50 10 49⟩,⟨7,112,lb 51 1 50⟩,⟨8,0,mt 52 1⟩,⟨9,496,ia 53 2 51 52⟩,⟨10,1008,fa 54 0 53⟩,⟨11,2032,lb 55 1 54⟩,⟨12,4095,ak 56 .sub 47 55⟩,⟨13,8191,nc 57 44⟩,⟨14,16383,fa 58 11 57⟩,⟨15,32767,sb 1 58 56⟩]) (.seq (.regd [⟨0,0,mt 59 0⟩,⟨1,0,mt 60 2⟩,⟨2,1,nc 61 59⟩,⟨3,5,fa 62 0 61⟩,⟨4,15,ib 63 8 1 62 60⟩,⟨5,31,lb 64 1 63⟩,⟨6,0,mt 65 0⟩,⟨7,64,nc 66 65⟩,⟨8,192,fa 67 10 66⟩,⟨9,448,lb 68 1 67⟩,⟨10,0,mt 69 1⟩,⟨11,1984,ia 70 2 68 69⟩,⟨12,4032,fa 71 0 70⟩,⟨13,8128,lb 72 1 71⟩,⟨14,16383,ak 73 .add 64 72⟩,⟨15,1,nc 74 59⟩,⟨16,32769,fa 75 0 74⟩,⟨17,131071,ib 76 8 1 75 60⟩,⟨18,262143,sb 1 76 73⟩]) (sr [mn 6] .ret)))))))
def Aiv:LF:=⟨Alx,3,0,77,[.tmp 6]⟩
def Anw:LC:=(sr [mU 4 0,mn 5] (sr [mt 10 0,kl 11 130 [(.t 10)],mt 9 11,ee 12 9 0,ee 13 9 1,ee 14 9 2,mt 6 12,mt 7 13,mt 8 14] (.seq (.block 0 (sr [mt 16 8,A1 17 (.eq true true (.iface [74]) (.t 16) (.c .nili)),mt 15 17] (.cond (.t 15) (sr [mt 18 8,
  mU 4 0,mt 5 18] .ret) (sr [mt 20 1,mt 21 6,ak 22 .lss 20 21,mt 23 22,mg 24 23 false 1,A2 25 23 false (.ari .gtr (.t 24) (cI 24)),
  Di 26 23 25,mt 19 26] (.cond (.t 19) (sr [A1 27 (.mkif 74 (cI 2)),
  mU 4 0,mt 5 27] .ret) .skip))))) (sr [mt 28 7,
  aU 29 .add 28 1,mt 30 1,mt 31 6,ak 32 .sub 30 31,ak 33 .shl 29 32,
  aU 34 .sub 33 1,mt 4 34,mn 5] .ret))))
def IV:LF:=⟨Anw,2,0,35,[.tmp 4,.tmp 5]⟩
def Aio:LC:=(sr [bX 4 0,
 bX 5 1,A1 8 (.mv (.c (.bool false))),mn 9] (sr [la 13 2 4,la 14 2 5,mt 15 2,mt 16 3,kl 17 453 [(.t 13),(.t 14),(.t 15),(.t 16)],mt 12 17,ee 18 12 0,ee 19 12 1,mt 10 18,mt 11 19] (sr [mt 20 11,A1 21 (.eq false true (.iface [74]) (.t 20) (.c .nili)),mt 22 21,mg 23 22 true 10,A2 24 22 true (.fadr 0 (.t 4)),A2 25 22 true (.load false 1 (.t 24)),A2 26 22 true (.ari .geq (.t 23) (.t 25)),
  HX 27 22 26,mt 28 11,mt 8 27,mt 9 28] .ret)))
def Agx:LF:=⟨Aio,4,0,29,[.tmp 8,.tmp 9]⟩
variable {M:Seat}
def pw (k i:Nat):BitVec 64:=BitVec.ofNat 64 (2 ^ k + i)
theorem p24 {k:Nat} (hk:k≤24):1≤2 ^ k∧2 ^ k≤16777216:=⟨Nat.one_le_two_pow,Nat.pow_le_pow_right Am hk⟩
theorem N8 {k i:Nat} (hk:k≤24) (hi:i < 2 ^ k):(pw k i).toNat=2 ^ k + i:=by
 have:=p24 hk
 rw [pw,BitVec.toNat_ofNat];omega
theorem NO {k i:Nat} (hk:k≤24) (hi:i < 2 ^ k):CY (pw k i)=k + 1:=by
 have hn:=N8 hk hi
 have hp:=p24 hk
 have h0:pw k i ≠ 0#64:=by
  intro h
  rw [h] at hn
  simp at hn
  omega
 obtain ⟨hl,hr⟩:=Kl (pw k i)
 obtain ⟨h1,h2,h3⟩:=hr h0
 rw [hn] at h2 h3
 have e:2 ^ (k + 1)=2 * 2 ^ k:=by rw [Nat.pow_succ];omega
 rcases Nat.lt_trichotomy (CY (pw k i)) (k + 1) with h | h | h
 ·have:=Nat.pow_le_pow_right (n:=2) Am (show CY (pw k i)≤k by omega)
  omega
 ·exact h
 ·have:=Nat.pow_le_pow_right (n:=2) Am (show k + 1≤CY (pw k i) - 1 by omega)
  omega
theorem sh1 (k:Nat):1#64 <<< k=BitVec.ofNat 64 (2 ^ k):=by
 apply BitVec.eq_of_toNat_eq
 rw [BitVec.toNat_shiftLeft,BitVec.toNat_ofNat,BitVec.toNat_ofNat,Nat.shiftLeft_eq]
 simp
theorem Af3 {k i:Nat} (hk:k≤24) (hi:i < 2 ^ k):pw k i - 1#64 <<< k=BitVec.ofNat 64 i:=by
 have hp:=p24 hk
 rw [sh1]
 apply BitVec.eq_of_toNat_eq
 rw [BitVec.toNat_sub,N8 hk hi,BitVec.toNat_ofNat,BitVec.toNat_ofNat]
 omega
theorem BI (ok:OkPo M) {k i:Nat} (hk:k≤24) (hi:i < 2 ^ k):Ae M 130 [W (pw k i)] [] 0 (Q3 (Cz (.int .i64 k) (W (BitVec.ofNat 64 i)) .nili) [] 0):=by
 have h:=G4 ok.p (pw k i)
 have hn:=N8 hk hi
 have hp:=p24 hk
 rw [NO hk hi] at h
 refine Ab ok.k130 rfl fun x hx=>?_
 have e0:(pw k i=0#64)=False:=eq_false fun h=>by rw [h] at hn;simp at hn;omega
 have e1:(33554432#64≤pw k i)=False:=eq_false fun h=>by rw [BitVec.le_def,hn] at h;simp at h;omega
 have z0:IntKind.i64.wrap (((k + 1:Nat):Int) - 1)=(k:Int):=Br
 have z1:0≤(k:Int):=Aa
 refine es 2000 ?_;(simp only [Afa,Ahq,e0,e1,LZ,seval])
 refine Al (h) ?_
 (simp only [z0,z1,Af3 hk hi,LZ,seval])
 have zz:=@Cz.eq_1;exact Bu hx [] ⟨rfl,rfl,rfl⟩
theorem L3 (ok:OkPo M) {k i:Nat} (hk:k≤24) (hi:i < 2 ^ k):Ae M 260 [.int .i64 k,W (BitVec.ofNat 64 i)] [] 0 (Q3 (Ag (W (pw k i)) .nili) [] 0):=by
 have hp:=p24 hk
 refine Ab ok.k260 rfl fun x hx=>?_
 have e0:((k:Int) < 0)=False:=eq_false Aa
 have e1:(24 < (k:Int))=False:=eq_false Aa
 have z1:0≤(k:Int):=Aa
 have e2:(1#64 <<< k≤BitVec.ofNat 64 i)=False:=eq_false fun h=>by
  rw [sh1,BitVec.le_def,BitVec.toNat_ofNat,BitVec.toNat_ofNat] at h
  omega
 have e3:1#64 <<< k + BitVec.ofNat 64 i=pw k i:=by
  rw [sh1,pw,BitVec.ofNat_add]
 refine es 2000 ?_;(simp only [Ald,Alr,e0,e1,e2,z1,LZ,seval])
 have zz:=Bo @Ag.eq_1 e3;exact Bu hx [] ⟨rfl,rfl,rfl⟩
theorem Acx (i:Nat):2#64 * BitVec.ofNat 64 i=BitVec.ofNat 64 (2 * i):=by rw [BitVec.ofNat_mul]
theorem Ag7 (i:Nat):BitVec.ofNat 64 (2 * i) + 2#64=BitVec.ofNat 64 (2 * i + 2):=by rw [BitVec.ofNat_add]
theorem Ep (ok:OkPo M) {k i:Nat} (hk:k < 24) (hi:i < 2 ^ k):Ae M 131 [W (pw k i)] [] 0 (Q3 (Ag (W (pw (k + 1) (2 * i))) .nili) [] 0):=by
 have hM:=L3 ok (k:=k + 1) (i:=2 * i) Aa (by rw [Nat.pow_succ];omega)
 refine Ab ok.k131 rfl fun x hx=>?_
 have z1:IntKind.i64.wrap ((k:Int) + 1)=((k + 1:Nat):Int):=Br
 refine es 2000 ?_;(simp only [Ai0,Ama,LZ,seval])
 refine Al (BI ok (Nat.le_of_lt hk) hi) ?_
 (simp only [Cz,z1,Acx,LZ,seval])
 refine Al (hM) ?_
 (simp only [BU,seval])
 have zz:=@Ag.eq_1;exact Bu hx [] ⟨rfl,rfl,rfl⟩
theorem Pc (ok:OkPo M) {k i:Nat} (hk:k < 24) (hi:i + 1 < 2 ^ k):Ae M 132 [W (pw k i)] [] 0 (Q3 (Ag (W (pw (k + 1) (2 * i + 2))) .nili) [] 0):=by
 have hp:=p24 (Nat.le_of_lt hk)
 have hM:=L3 ok (k:=k + 1) (i:=2 * i + 2) Aa (by rw [Nat.pow_succ];omega)
 refine Ab ok.k132 rfl fun x hx=>?_
 have e0:((k:Int)=24)=False:=eq_false Aa
 have z1:0≤(k:Int):=Aa
 have z2:IntKind.i64.wrap ((k:Int) + 1)=((k + 1:Nat):Int):=Br
 have e1:(BitVec.ofNat 64 i=1#64 <<< k - 1#64)=False:=eq_false (by
  rw [sh1]
  intro h
  have h:=congrArg BitVec.toNat h
  rw [BitVec.toNat_sub,BitVec.toNat_ofNat,BitVec.toNat_ofNat] at h
  simp at h
  omega)
 refine es 2000 ?_;(simp only [An1,Alf,LZ,seval])
 refine Al (BI ok (Nat.le_of_lt hk) (show i < 2 ^ k by omega)) ?_
 (simp only [Cz,e0,z1,e1,z2,Acx,Ag7,LZ,seval])
 refine Al (hM) ?_
 (simp only [BU,seval])
 have zz:=@Ag.eq_1;exact Bu hx [] ⟨rfl,rfl,rfl⟩
def LI (D k i:Nat):Nat:=(i + 1) * 2 ^ (D - k) - 1
theorem Cd (ok:OkPo M) (k359:Ar M 359 IV=true) {D k i:Nat} (hD:D≤24) (hk:k≤D) (hi:i < 2 ^ k):Ae M 359 [W (pw k i),.int .i64 D] [] 0 (Q3 (Ag (W (BitVec.ofNat 64 (LI D k i))) .nili) [] 0):=by
 refine Ab k359 rfl fun x hx=>?_
 have hp:=p24 hD
 have hq:=p24 (show D - k≤24 by omega)
 have e0:((D:Int) < (k:Int))=False:=eq_false Aa
 have e1:(24 < (D:Int))=False:=eq_false Aa
 have z2:IntKind.i64.wrap ((D:Int) - (k:Int))=((D - k:Nat):Int):=Br
 have z1:0≤((D - k:Nat):Int):=Aa
 have e3:(BitVec.ofNat 64 i + 1#64) <<< (D - k) - 1#64=BitVec.ofNat 64 (LI D k i):=by
  have h2:2 ^ D=2 ^ k * 2 ^ (D - k):=Y2
  have h3:(i + 1) * 2 ^ (D - k)≤2 ^ k * 2 ^ (D - k):=Nat.mul_le_mul_right _ hi
  have h4:1 * 2 ^ (D - k)≤(i + 1) * 2 ^ (D - k):=Nat.mul_le_mul_right _ Aa
  have h5:i < 16777216:=by have:=(p24 (show k≤24 by omega)).2;omega
  apply BitVec.eq_of_toNat_eq
  rw [BitVec.toNat_sub,BitVec.toNat_shiftLeft,BitVec.toNat_add,BitVec.toNat_ofNat,BitVec.toNat_ofNat,Nat.shiftLeft_eq,LI]
  rw [show (i % 2 ^ 64 + 1 % 2 ^ 64) % 2 ^ 64=i + 1 by omega,BitVec.toNat_ofNat]
  omega
 refine es 2000 ?_;(simp only [IV,Anw,LZ,seval])
 refine Al (BI ok (show k≤24 by omega) hi) ?_
 (simp only [Cz,e0,e1,z2,z1,e3,LZ,seval])
 have zz:=@Ag.eq_1;exact Bu hx [] ⟨rfl,rfl,rfl⟩
structure OkLe (M:Seat):Prop where
 l:OkLd M
 k126:Ar M 126 Aju=true
 k358:Ar M 358 Aiv=true
theorem Xg {M:Seat} (ok:OkLe M) (b:Nat→BitVec 64) (i o:BitVec 64) (m:Nat) (k:BitVec 64) (p:Nat) (hp:p < 8) :
 Ae M 126 [.ptr 0 [],.int .i64 p] [(0,AA b i o (.sl 1 [] 0 m 2) k)] 2 (Q3 (Ag (W (b p)) .nili) [(0,AA b i o (.sl 1 [] 0 m 2) k)] 2):=by
 refine Ab ok.k126 rfl fun x hx=>?_
 have e0:((p:Int) < 0)=False:=eq_false Aa
 have e1:((p:Int) < 8)=True:=eq_true Aa
 have e2:(0≤(p:Int))=True:=eq_true Aa
 refine es 2000 ?_;(simp only [Aju,Amp,AA,LZ,seval])
 refine R6 [0] [] (ER ok.l p hp) (by constructor <;> (try simp only [LY,seval]) <;> exact q1) (by simp only [LX]) ?_
 (simp only [AA,e0,e1,e2,LZ,seval])
 repeat refine sd ?_
 have zz:=@Ag.eq_1;exact Bu hx [0,1] ⟨rfl,rfl,rfl⟩
theorem Uc {M:Seat} (ok:OkLe M) (b:Nat→BitVec 64) (i o:BitVec 64) (m:Nat) (k:BitVec 64) (v:Nat→BitVec 64) (g:Nat→Bool) (a:Nat) (ha:a < m) (hm:m < 1000) (hg:g a=false) (p:Nat) (hp:p < 8) :
 Ae M 358 [.ptr 0 [],.int .i64 a,.int .i64 p] [(0,AA b i o (.sl 1 [] 0 m 2) k),(1,.ar 2 m fun j=>AU (v j) (g j))] 2 (Q3 .nili [(0,AA (fun j=>if j=p then b p + v a else b j) i o (.sl 1 [] 0 m 2) (k - v a)),(1,.ar 2 m fun j=>AU (v j) (if j=a then true else g j))] 2):=by
 refine Ab ok.k358 rfl fun x hx=>?_
 have e0:((p:Int) < 0)=False:=eq_false Aa
 have e1:((p:Int) < 8)=True:=eq_true Aa
 have e2:(0≤(p:Int))=True:=eq_true Aa
 have d0:((a:Int) < 0)=False:=eq_false Aa
 have d1:((m:Int)≤(a:Int))=False:=eq_false Aa
 have d2:((a:Int) < (m:Int))=True:=eq_true Aa
 have d3:(0≤(a:Int))=True:=eq_true Aa
 refine es 2000 ?_;(simp only [Aiv,Alx,AA,LZ,seval])
 refine R6 [0] [] (ER ok.l p hp) (by constructor <;> (try simp only [LY,seval]) <;> exact q1) (by simp only [LX]) ?_
 (simp only [AA,AU,hg,e0,e1,e2,d0,d1,d2,d3,LZ,seval])
 repeat refine sd ?_
 refine Aq.mk hx [0,1] [] .nili [(0,AA (fun j=>if j=p then b p + v a else b j) i o (.sl 1 [] 0 m 2) (k - v a)),(1,.ar 2 m fun j=>AU (v j) (if j=a then true else g j))] 2 Am (by (simp only [Db,AA,seval])) (by simp only [LV,AA,LY,seval]) ?_ ⟨rfl,rfl,rfl⟩
 simp only [AA,AU,LY,seval]
 refine ⟨fun j hj=>?_,fun j hj=>?_⟩
 ·by_cases h:j=p <;> simp only [h,C8,LY,seval]
 ·by_cases h:j=a
  ·subst h
   simp only [if_true,LY,seval]
  ·simp only [h,if_false,LY,seval]
structure OkGm (M:Seat):Prop where
 n:OkGN M
 l:OkLd M
 p:OkPo M
 k249:Ar M 249 Ai7=true
 k248:Ar M 248 Af1=true
 k350:Ar M 350 Aer=true
 k354:Ar M 354 Ahl=true
def AB (d:Int) (l g:BitVec 64) (s:Dg) (ld cs:V):V:=.st 37 (.fcons 0 (AH d l g s) (.fcons 35 ld (.fcons 36 cs .fnil)))
def ftV (c e:Int):V:=.st 2 (.fcons 0 (.int .i64 c) (.fcons 1 (er e) .fnil))
theorem YV {M:Seat} (ok:OkGm M) (c e:Int):Ae M 248 [.int .i64 c,er e] [] 0 (Q3 (.ifc 145 (.ptr 0 [])) [(0,ftV c e)] 1):=by
 refine Ab ok.k248 rfl fun x hx=>?_
 refine es 2000 ?_;(simp only [Af1,Ahj,LZ,seval])
 refine Aq.mk hx [96] [] (.ifc 145 (.ptr 0 [])) [(0,ftV c e)] 1 Am (by (simp only [Db,seval])) (by simp only [LV,LY,seval]) (by simp only [ftV,er,LY,seval]) ⟨rfl,rfl,rfl⟩
theorem J5 {M:Seat} (ok:OkGm M) (c:Int):Ae M 248 [.int .i64 c,.nili] [] 0 (Q3 .nili [] 0):=by
 refine Ab ok.k248 rfl fun x hx=>?_
 refine es 2000 ?_;(simp only [Af1,Ahj,LZ,seval])
 exact Aq.mkZ hx [] ⟨rfl,rfl,rfl⟩
def Adp (max:Bool) (x y z w:V) (H:Hp):Out:=match x,y,z,w with
 | .int k a,.int k1 b,.int k2 c,.int k3 d=>⟨k=k1∧k=k2∧k=k3,.int k (QB max (QB max (QB max a b) c) d),H⟩
 | _,_,_,_=>BR H
theorem M3 (A:List V) (H:Hp) (n:Nat) (max:Bool) (x y z w:X):Ac A H n (.mm4 max x y z w)=Adp max (x.ev A) (y.ev A) (z.ev A) (w.ev A) H:=rfl
def UX (a b:BitVec 64):BitVec 64:=if a < b then b else a
theorem Anx (a b:BitVec 64):QB true (a.toNat:Int) (b.toNat:Int)=((UX a b).toNat:Int):=by
 unfold QB UX
 simp only [if_true,BitVec.lt_def]
 by_cases h:a.toNat < b.toNat
 ·rw [if_pos h,if_pos Aa]
 ·rw [if_neg h,if_neg Aa]
theorem RA (a b c d:BitVec 64) (H:Hp):Adp true (W a) (W b) (W c) (W d) H=⟨True,W (UX (UX (UX a b) c) d),H⟩:=by
 simp only [W,Adp,Anx,and_self]
structure OkMv (M:Seat):Prop where
 g:OkGm M
 k351:Ar M 351 Anp=true
 k352:Ar M 352 V2=true
 k353:Ar M 353 Al2=true
 k452:Ar M 452 Am6=true
 k453:Ar M 453 Ah4=true
 k487:Ar M 487 Aaj=true
 k247:Ar M 247 Akw=true
 fn352:FJ M 352
theorem Al7 {M:Seat} {f:Nat} {v w:V} {us:List V} {H:Hp} {n:Nat} {K:V→Hp→Prop} (hf:FJ M f) (hv:(v.solid && !v.isAgg)=true) (hw:(w.solid && !w.isAgg)=true) (h:AQ M f (us ++ [v,w]) H n K):EF M (.fn f (.st 2 (.fcons 0 v (.fcons 1 w .fnil)))) us H n K:=by
 refine .inl ⟨⟨hf,?_⟩,h⟩
 simp [V.fhas,V.fget,List.range_succ] at hv hw ⊢
 exact ⟨hv,hw⟩
end Mv
