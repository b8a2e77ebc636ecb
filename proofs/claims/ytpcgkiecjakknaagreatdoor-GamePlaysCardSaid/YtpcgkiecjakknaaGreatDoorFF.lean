/- A part. -/
import Derived.Test.YtpcgkiecjakknaaGreatDoorFE
set_option linter.all false
set_option maxRecDepth 20000
set_option maxHeartbeats 8000000
namespace Mv
open Go
structure OkGN (M:Seat):Prop where
 k110:Au M 110 P9=true
 k111:Au M 111 V3=true
 k112:Au M 112 ZM=true
 k113:Au M 113 Ag2=true
 k114:Au M 114 UF=true
 k115:Au M 115 Aaz=true
 k117:Au M 117 Adn=true
 k118:Au M 118 Ace=true
 k119:Au M 119 Ag1=true
 k120:Au M 120 Aew=true
 k246:Au M 246 Rm=true
structure Cl where
 par:Int
 pos:BitVec 64
 val:Dg
 pl:Int
 bond:Int
 us:BitVec 64
 at':BitVec 64
 st:Bool
 rs:Bool
 co:Bool
 by':Int
def Ac (u a:BitVec 64):V:=.st 2 (.fcons 0 (W u) (.fcons 1 (W a) .fnil))
def Cl.v (c:Cl):V:=.st 42 (.fcons 0 (.int .i64 c.par) (.fcons 1 (W c.pos) (.fcons 2 (dg c.val) (.fcons 34 (.int .i64 c.pl) (.fcons 35 (.int .i64 c.bond) (.fcons 36 (Ac c.us c.at') (.fcons 38 (.bool c.st) (.fcons 39 (.bool c.rs) (.fcons 40 (.bool c.co) (.fcons 41 (.int .i64 c.by') .fnil))))))))))
def Cl.zero:Cl:=⟨0,0#64,Dg.zero,0,0,0#64,0#64,false,false,false,0⟩
def Al (d:Int) (l g:BitVec 64) (s:Dg):V:=.st 35 (.fcons 0 (.int .i64 d) (.fcons 1 (Ac l g) (.fcons 3 (dg s) .fnil)))
abbrev er (n:Int):V:=.ifc 74 (.int .i64 n)
theorem IU {M:Seat} (ok:OkGN M) (d:Int) (l g:BitVec 64) (s:Dg):Ag M 113 [.int .i64 d,W l,W g,dg s] [] 0 (Q3 (Al d l g s) [] 0):=by
 refine Ab ok.k113 rfl fun x hx=>?_
 refine es 2000 ?_;(simp only [Ag2,Aho,LZ,seval])
 have zz:=C4 @Al.eq_1 @Ac.eq_1 @dg.eq_1;exact Bf hx [] ⟨rfl,rfl,rfl⟩
theorem Dh {M:Seat} (ok:OkGN M) (d:Int):Ag M 120 [.int .i64 d] [] 0 (Q3 (W (if d < 0 then 0#64 else BitVec.ofInt 64 d + 1#64)) [] 0):=by
 refine Ab ok.k120 rfl fun x hx=>?_
 by_cases h:d < 0
 all_goals
  simp only [h,CL]
  refine es 2000 ?_;(simp only [Aew,Ais,h,LZ,seval])
  exact Ar.mkZ hx [] ⟨rfl,rfl,rfl⟩
variable {M:Seat}
structure OkLd (M:Seat):Prop where
 k222:Au M 222 f222=true
 k223:Au M 223 f223=true
 k250:Au M 250 RQ=true
 k258:Au M 258 XF=true
 k355:Au M 355 YK=true
def Aq (b:Nat→BitVec 64) (i o:BitVec 64) (bs:V) (k:BitVec 64):V:=.st 12 (.fcons 0 (.ar 1 8 fun j=>W (b j)) (.fcons 8 (W i) (.fcons 9 (W o) (.fcons 10 bs (.fcons 11 (W k) .fnil)))))
theorem MF (ok:OkLd M):Ag M 222 [] [] 0 (Q3 (.ptr 0 []) [(0,Aq (fun _=>0#64) 0#64 0#64 .nils 0#64)] 1):=by
 refine Ab ok.k222 rfl fun x hx=>?_
 refine es 2000 ?_;(simp only [f222,Aik,LZ,seval])
 refine Ar.mk hx [32] [] (.ptr 0 []) [(0,Aq (fun _=>0#64) 0#64 0#64 .nils 0#64)] 1 Am (by (simp only [CU,Aq,seval])) (by simp only [LV,Aq,LY,seval]) (by simp only [Aq,LY,seval]) ⟨rfl,rfl,rfl⟩
theorem Dq (ok:OkLd M) (p:Nat) (hp:p < 8):Ag M 258 [.ptr 0 [],.int .i64 p] [] 1 (Q3 .nili [] 1):=by
 refine Ab ok.k258 rfl fun x hx=>?_
 have e0:((p:Int) < 0)=False:=eq_false Aa
 have e1:((8:Int)≤(p:Int))=False:=eq_false Aa
 refine es 2000 ?_;(simp only [XF,Yf,e0,e1,LZ,seval])
 exact Ar.mkZ hx [0] ⟨rfl,rfl,rfl⟩
theorem JJ (ok:OkLd M) (b:Nat→BitVec 64) (i o:BitVec 64) (k:BitVec 64) (p:Nat) (hp:p < 8) (v:BitVec 64) (h1:¬ 281474976710656#64 < v) (h2:¬ 281474976710656#64 < i + v) :
 Ag M 223 [.ptr 0 [],.int .i64 p,W v] [(0,Aq b i o .nils k)] 1 (Q3 .nili [(0,Aq (fun j=>if j=p then b p + v else b j) (i + v) o .nils k)] 1):=by
 refine Ab ok.k223 rfl fun x hx=>?_
 have e0:((p:Int) < 0)=False:=eq_false Aa
 have e1:((p:Int) < 8)=True:=eq_true Aa
 have e2:(0≤(p:Int))=True:=eq_true Aa
 refine es 2000 ?_;(simp only [f223,Aic,Aq,LZ,seval])
 refine Wx [0] [] (Dq ok p hp) (by constructor <;> (try simp only [LY,seval]) <;> exact q1) (by simp only [LX]) ?_
 (simp only [Aq,h1,h2,e0,e1,e2,LZ,seval])
 repeat refine sd ?_
 refine Ar.mk hx [0] [] .nili [(0,Aq (fun j=>if j=p then b p + v else b j) (i + v) o .nils k)] 1 Am (by (simp only [CU,Aq,seval])) (by simp only [LV,Aq,LY,seval]) ?_ ⟨rfl,rfl,rfl⟩
 simp only [Aq,LY,seval]
 intro j hj
 by_cases h:j=p <;> simp only [h,CL,LY,seval]
def A4 (v:BitVec 64) (g:Bool):V:=.st 2 (.fcons 0 (W v) (.fcons 1 (.bool g) .fnil))
theorem KW (ok:OkLd M) (b:Nat→BitVec 64) (i o:BitVec 64) (bs:V) (n:Nat) (hbs:(bs = .nils∧n=1) ∨ ∃ m,bs = .sl 1 [] 0 m 2∧n=2) (k:BitVec 64) (p:Nat) (hp:p < 8) (v:BitVec 64) (h1:¬ b p < v) :
 Ag M 355 [.ptr 0 [],.int .i64 p,W v] [(0,Aq b i o bs k)] n (Q3 .nili [(0,Aq (fun j=>if j=p then b p - v else b j) i o bs k)] n):=by
 refine Ab ok.k355 rfl fun x hx=>?_
 have e0:((p:Int) < 0)=False:=eq_false Aa
 have e1:((p:Int) < 8)=True:=eq_true Aa
 have e2:(0≤(p:Int))=True:=eq_true Aa
 rcases hbs with ⟨rfl,rfl⟩ | ⟨m,rfl,rfl⟩
 all_goals
  refine es 2000 ?_;(simp only [YK,Xk,Aq,LZ,seval])
  refine Wx [0] [] (Dq ok p hp) (by constructor <;> (try simp only [LY,seval]) <;> exact q1) (by simp only [LX]) ?_
  (simp only [Aq,h1,e0,e1,e2,LZ,seval])
  repeat refine sd ?_
 ·refine Ar.mk hx [0] [] .nili [(0,Aq (fun j=>if j=p then b p - v else b j) i o .nils k)] 1 Am (by (simp only [CU,Aq,seval])) (by simp only [LV,Aq,LY,seval]) ?_ ⟨rfl,rfl,rfl⟩
  simp only [Aq,LY,seval]
  intro j hj
  by_cases h:j=p <;> simp only [h,CL,LY,seval]
 ·refine Ar.mk hx [0,1] [] .nili [(0,Aq (fun j=>if j=p then b p - v else b j) i o (.sl 1 [] 0 m 2) k)] 2 Am (by (simp only [CU,Aq,seval])) (by simp only [LV,Aq,LY,seval]) ?_ ⟨rfl,rfl,rfl⟩
  simp only [Aq,LY,seval]
  intro j hj
  by_cases h:j=p <;> simp only [h,CL,LY,seval]
theorem J0 (ok:OkLd M) (b:Nat→BitVec 64) (i o:BitVec 64) (k:BitVec 64) (p:Nat) (hp:p < 8) (v:BitVec 64) (h1:¬ b p < v) :
 Ag M 250 [.ptr 0 [],.int .i64 p,W v] [(0,Aq b i o .nils k)] 1 (Q3 (Ah (.int .i64 0) .nili) [(0,Aq (fun j=>if j=p then b p - v else b j) i o (.sl 1 [] 0 1 2) (k + v)),(1,.ar 2 1 fun _=>A4 v false)] 2):=by
 refine Ab ok.k250 rfl fun x hx=>?_
 have z0:IntKind.i64.wrap 0=0:=rfl
 refine es 2000 ?_;(simp only [RQ,RW,Aq,LZ,seval])
 have zz:=@Aq.eq_1;refine Om [0] [0] (KW ok b i o .nils 1 (.inl ⟨rfl,rfl⟩) k p hp v h1) ?_
 (simp only [Aq,z0,LZ,seval])
 refine Ar.mk hx [0,369] [] (Ah (.int .i64 0) .nili) [(0,Aq (fun j=>if j=p then b p - v else b j) i o (.sl 1 [] 0 1 2) (k + v)),(1,.ar 2 1 fun _=>A4 v false)] 2 Am (by (simp only [CU,Aq,seval])) (by simp only [LV,Aq,Ah,LY,seval]) ?_ ⟨rfl,rfl,rfl⟩
 simp only [Aq,A4,LY,seval]
 intro j hj
 obtain rfl:j=0:=Aa
 simp only [if_true,LY,seval]
theorem J6 (ok:OkLd M) (b:Nat→BitVec 64) (i o:BitVec 64) (k:BitVec 64) (p:Nat) (hp:p < 8) (v:BitVec 64) (h1:¬ b p < v) (m:Nat) (hm:m < 1000) (f:Nat→V) (hf:∀ j,∃ u g,f j=A4 u g) :
 Ag M 250 [.ptr 0 [],.int .i64 p,W v] [(0,Aq b i o (.sl 1 [] 0 m 2) k),(1,.ar 2 m f)] 2 (Q3 (Ah (.int .i64 m) .nili) [(0,Aq (fun j=>if j=p then b p - v else b j) i o (.sl 2 [] 0 (m + 1) 2) (k + v)),(2,.ar 2 (m + 1) fun j=>if j < m then f j else A4 v false)] 3):=by
 refine Ab ok.k250 rfl fun x hx=>?_
 have z0:IntKind.i64.wrap ((m + 1:Nat) - 1:Int)=(m:Int):=AZ
 have z1:((65536:Int)≤(m:Int))=False:=eq_false Aa
 refine es 2000 ?_;(simp only [RQ,RW,Aq,LZ,seval])
 have zz:=@Aq.eq_1;refine Om [0,1] [0] (KW ok b i o (.sl 1 [] 0 m 2) 2 (.inr ⟨m,rfl,rfl⟩) k p hp v h1) ?_
 (simp only [Aq,z0,z1,LZ,seval])
 repeat refine sd ?_
 refine Ar.mk hx [0,1,370] [] (Ah (.int .i64 m) .nili) [(0,Aq (fun j=>if j=p then b p - v else b j) i o (.sl 2 [] 0 (m + 1) 2) (k + v)),(2,.ar 2 (m + 1) fun j=>if j < m then f j else A4 v false)] 3 Am (by (simp only [CU,Aq,seval])) (by simp only [LV,Aq,Ah,LY,seval]) ?_ ⟨rfl,rfl,rfl⟩
 simp only [Aq,A4,LY,seval]
 intro j hj
 by_cases h:j < m
 ·obtain ⟨u,g,e⟩:=hf j
  rw [if_pos h,if_pos h,e];simp only [A4,LY,seval]
 ·rw [if_neg h,if_neg h,if_pos Aa];simp only [LY,seval]
def Ahz:LC:=(sr [bX 3 0,
 mU 6 0] (sr [mU 7 0] (.seq (sr [mI 8 0] (.block 0 (.loop (.seq (sr [mt 9 8,fa 10 0 3,lb 11 1 10,
  lN 12 0 11,ak 13 .lss 9 12]
 (Dd 13 0)) (.seq (.block 1 (sr [fa 16 0 3,lb 17 1 16,mt 18 8,ia 19 4 17 18,fa 20 0 19,lb 21 1 20,mt 22 1,ak 23 .eql 21 22,mt 24 23,mg 25 24 true 2,A2 26 24 true (.ari .lss (.t 25) (cI 0)),mg 27 24 true 26,A2 28 27 false (.fadr 0 (.t 3)),A2 29 27 false (.load false 1 (.t 28)),mg 30 27 false 8,A2 31 27 false (.isl 4 (.t 29) (.t 30)),A2 32 27 false (.fadr 1 (.t 31)),A2 33 27 false (.load false 1 (.t 32)),mg 34 27 false 2,A2 35 27 false (.ari .eql (.t 33) (.t 34)),A2 36 24 true (.pick (.t 27) (.c (.bool true)) (.t 35)),
  Fq 37 24 36] (.cond (.t 37) (.reg [mt 38 7,fa 39 0 3,lb 40 1 39,mt 41 8,ia 42 4 40 41,fa 43 3 42,lb 44 1 43,ak 45 .add 38 44,mt 7 45]) .skip))) (.reg [mt 14 8,aI 15 .add 14 1,mt 8 15])))))) (sr [mt 46 7,mt 6 46] .ret))))
def Agr:LF:=⟨Ahz,3,0,47,[.tmp 6]⟩
def Asz:LC:=(sr [bX 2 0,
 mU 4 0] (.seq (.regd [⟨0,0,la 5 1 2⟩,⟨1,0,mt 6 1⟩,⟨2,3,kl 7 149 [(.t 5),(cI 1),(.t 6)]⟩,⟨3,0,la 8 1 2⟩,⟨4,0,mt 9 1⟩,⟨5,31,kl 10 149 [(.t 8),(cI 4),(.t 9)]⟩,⟨7,0,la 12 1 2⟩,⟨8,0,mt 13 1⟩,⟨9,255,kl 14 149 [(.t 12),(cI 2),(.t 13)]⟩,⟨11,0,la 16 1 2⟩,⟨12,0,mt 17 1⟩,⟨13,2047,kl 18 149 [(.t 16),(cI 3),(.t 17)]⟩,⟨6,63,ak 11 .add 7 10⟩,⟨10,4607,ak 15 .sub 11 14⟩,⟨14,16383,ak 19 .sub 15 18⟩,⟨15,32767,mt 4 19⟩]) .ret))
def Asq:LF:=⟨Asz,2,0,20,[.tmp 4]⟩
def Aac:LC:=(sr [bX 3 1,
 mI 4 0,
 mI 5 0] (.seq (sr [fa 11 1 3,lb 12 1 11,aI 13 .lss 12 0,mt 14 13,A2 15 14 false (.fadr 1 (.t 3)),A2 16 14 false (.load false 1 (.t 15)),A2 17 14 false (.ari .geq (.t 16) (cI 8)),
  BV 18 14 17] (.cond (.t 18) (sr [mI 4 0,
  mI 5 2] .ret) .skip)) (sr [mI 6 0] (sr [mU 7 0] (sr [A1 8 (.mv (.c (.bool false)))] (.seq (sr [mI 9 0] (.block 0 (.loop (.seq (sr [mt 19 9,mt 20 0,nc 21 20,fa 22 0 21,lb 23 1 22,
  lN 24 0 23,ak 25 .lss 19 24]
 (Dd 25 0)) (.seq (.block 1 (sr [mt 28 0,nc 29 28,fa 30 0 29,lb 31 1 30,mt 32 9,ia 33 4 31 32,la 34 4 33,A1 10 (.alloc (.st (.cons (.int .i64) (.cons (.int .i64) (.cons (.int .i64) (.cons (.int .u64) .nil)))))),sb 4 10 34] (.seq (sr [fa 35 0 10,lb 36 1 35,aI 37 .eql 36 3] (.cond (.t 37) (.seq (sr [mt 38 6,fa 39 2 3,lb 40 1 39,ak 41 .eql 38 40] (.cond (.t 41) (.reg [fa 42 3 10,lb 43 1 42,mt 7 43]) .skip)) (.reg [mt 44 6,aI 45 .add 44 1,mt 6 45])) .skip)) (.reg [mt 46 8,mt 47 46,A2 48 47 false (.fadr 0 (.t 10)),A2 49 47 false (.load false 1 (.t 48)),A2 50 47 false (.ari .eql (.t 49) (cI 4)),mg 51 47 false 50,A2 52 51 true (.fadr 2 (.t 10)),A2 53 51 true (.load false 1 (.t 52)),A2 54 51 true (.fadr 2 (.t 3)),A2 55 51 true (.load false 1 (.t 54)),A2 56 51 true (.ari .eql (.t 53) (.t 55)),A2 57 47 false (.pick (.t 51) (.t 56) (.c (.bool false))),
  BV 58 47 57,mt 8 58])))) (.reg [mt 26 9,aI 27 .add 26 1,mt 9 27])))))) (.seq (sr [fa 59 0 3,lb 60 1 59] (.block 2 (sr [aI 62 .eql 60 1,mt 61 62] (.cond (.t 61) (.seq (.regd [⟨0,0,fa 63 3 3⟩,⟨1,1,lb 64 1 63⟩,⟨2,3,aU 65 .gtr 64 281474976710656⟩,⟨3,7,mt 66 65⟩,⟨4,15,mg 67 66 false 0⟩,⟨5,31,A2 68 66 false (.nilc (.t 67))⟩,⟨6,63,A2 69 66 false (.load true 1 (.t 68))⟩,⟨7,127,⟨(some 70),.call 149 [(.t 69),(cI 1),(.c (.int .i64 (-1)))],(some (66,false))⟩⟩,⟨8,15,A2 71 66 false (.fadr 3 (.t 3))⟩,⟨9,271,A2 72 66 false (.load false 1 (.t 71))⟩,⟨10,1023,A2 73 66 false (.ari .add (.t 70) (.t 72))⟩,⟨11,2047,A2 74 66 false (.ari .gtr (.t 73) (cU 281474976710656))⟩,⟨12,4095,BV 75 66 74⟩]) (.cond (.t 75) (sr [mI 4 0,
  mI 5 2] .ret) .skip)) (.seq (sr [aI 77 .eql 60 2,mt 76 77] (.cond (.t 76) .skip (.reg [aI 78 .eql 60 3,mt 76 78]))) (.cond (.t 76) (.seq (.seq (.regd [⟨0,0,mt 79 0⟩,⟨1,1,nc 80 79⟩,⟨2,3,la 81 1 80⟩,⟨3,0,fa 82 1 3⟩,⟨4,8,lb 83 1 82⟩,⟨5,31,kl 84 150 [(.t 81),(.t 83)]⟩,⟨6,0,fa 85 3 3⟩,⟨7,64,lb 86 1 85⟩,⟨8,255,ak 87 .lss 84 86⟩]) (.cond (.t 87) (sr [mI 4 0,
  mI 5 21] .ret) .skip)) (sr [fa 88 0 3,lb 89 1 88,aI 90 .eql 89 3,mt 91 90,mg 92 91 true 6,A2 93 91 true (.ari .geq (.t 92) (cI 65536)),
  Fq 94 91 93] (.cond (.t 94) (sr [mI 4 0,
  mI 5 5] .ret) .skip))) (sr [aI 96 .eql 60 4,mt 95 96] (.cond (.t 95) (.seq (sr [fa 97 2 3,lb 98 1 97,aI 99 .lss 98 0,mt 100 99,A2 101 100 false (.fadr 2 (.t 3)),A2 102 100 false (.load false 1 (.t 101)),mg 103 100 false 6,A2 104 100 false (.ari .geq (.t 102) (.t 103)),
  BV 105 100 104] (.cond (.t 105) (sr [mI 4 0,
  mI 5 4] .ret) .skip)) (.seq (sr [mt 106 8] (.cond (.t 106) (sr [mI 4 0,
  mI 5 41] .ret) .skip)) (.reg [mt 107 7,fa 108 3 3,sb 1 108 107]))) .skip)))))))) (.seq (.regd [⟨1,0,mt 110 0⟩,⟨2,1,nc 111 110⟩,⟨3,3,fa 112 0 111⟩,⟨4,7,lb 113 1 112⟩,⟨5,0,la 114 4 3⟩,⟨6,16,A1 115 (.bsl 4 1 (.st (.cons (.int .i64) (.cons (.int .i64) (.cons (.int .i64) (.cons (.int .u64) .nil))))) [(.i 4 0,4,(.t 114))])⟩,⟨7,63,aP 116 4 32 113 115⟩,⟨0,0,mt 109 0⟩,⟨8,255,nc 117 109⟩,⟨9,511,fa 118 0 117⟩,⟨10,1023,sb 1 118 116⟩]) (.seq (sr [fa 119 0 3,lb 120 1 119,aI 121 .eql 120 3] (.cond (.t 121) (sr [mt 122 6,mt 4 122,
  mI 5 0] .ret) .skip)) (sr [mI 4 0,
  mI 5 0] .ret))))))))))
def ZG:LF:=⟨Aac,2,0,123,[.tmp 4,.tmp 5]⟩
variable {M:Seat}
structure OkDl (M:Seat):Prop where
 k149:Au M 149 Agr=true
 k263:Au M 263 ZG=true
def DY (v:BitVec 64) (p:Nat):V:=.st 4 (.fcons 0 (.int .i64 1) (.fcons 1 (.int .i64 p) (.fcons 2 (.int .i64 0) (.fcons 3 (W v) .fnil))))
def D1 (s:V):V:=.st 1 (.fcons 0 s .fnil)
def HK (v:BitVec 64):Nat→BitVec 64
 | 0=>0#64
 | n + 1=>HK v n + v
theorem KR (ok:OkDl M) (v:BitVec 64) (n:Nat) (hn:n < 1000):Ag M 149 [D1 (.lst 4 n (DY v)),.int .i64 1,.int .i64 (-1)] [] 0 (Q3 (W (HK v n)) [] 0):=by
 refine Ab ok.k149 rfl fun x hx=>?_
 refine es 2000 ?_;(simp only [Agr,Ahz,D1,LZ,seval])
 have z1:((-1:Int) < 0)=True:=eq_true Am
 refine An (σ:=Nat) (fun j=>j≤n) (fun j=>fr 47 [(8,.int .i64 j),(7,W (HK v j)),(3,.ptr 0 []),(2,.int .i64 (-1)),(1,.int .i64 1)]) (fun _=>[(0,D1 (.lst 4 n (DY v)))]) (fun _=>1) (fun j=>n - j) 0 Aa ?_ ?_
 ·refine Ao.fr [0] [] hx AQ Am ?_ ?_
  ·simp only [HK,Int.natCast_zero,LY,seval]
  ·simp only [D1,DY,LY,seval]
 ·intro j hj
  refine es 2000 ?_
  by_cases h:j=n
  ·subst h
   have d0:((j:Int) < (j:Int))=False:=eq_false Aa
   (simp only [D1,d0,LZ,seval])
   exact Ar.mkZ hx [] ⟨rfl,rfl,rfl⟩
  ·have d0:((j:Int) < (n:Int))=True:=eq_true Aa
   have d1:(j < n)=True:=eq_true Aa
   have w0:IntKind.i64.wrap ((j:Int) + 1)=((j + 1:Nat):Int):=AZ
   (simp only [D1,DY,d0,d1,w0,z1,LZ,seval])
   repeat refine sd ?_
   refine ⟨j + 1,by omega,by omega,?_⟩
   refine Ao.fr [0] [] hx AQ Am ?_ ?_
   ·simp only [HK,LY,seval]
   ·simp only [D1,DY,LY,seval]
theorem S2 (ok:OkDl M) (v:BitVec 64) (hv:¬ 281474976710656#64 < v):Ag M 263 [.ptr 0 [],DY v 0] [(0,D1 .nils)] 1 (Q3 (Ah (.int .i64 0) (.int .i64 0)) [(0,D1 (.sl 1 [] 0 1 4)),(1,.ar 4 1 (DY v))] 2):=by
 have hS:=KR ok v 0 Am
 refine Ab ok.k263 rfl fun x hx=>?_
 refine es 2000 ?_;(simp only [ZG,Aac,DY,D1,LZ,seval])
 refine AW ?_
 refine es 2000 ?_
 (simp only [DY,D1,hv,LZ,seval])
 have zz:=@D1.eq_1;refine G0 (hS) ?_
 (simp only [HK,hv,BitVec.zero_add,Nat.testBit,List.map_nil,List.map_cons,B3,LZ,seval])
 refine Ar.mk hx [0,1105] [] (Ah (.int .i64 0) (.int .i64 0)) [(0,D1 (.sl 1 [] 0 1 4)),(1,.ar 4 1 (DY v))] 2 Am (by (simp only [CU,D1,seval])) (by simp only [LV,Ah,LY,seval]) ?_ ⟨rfl,rfl,rfl⟩
 simp only [D1,DY,LY,seval]
 intro j hj
 obtain rfl:j=0:=Aa
 simp only [if_true,Int.natCast_zero,LY,seval]
theorem Rq (ok:OkDl M) (v:BitVec 64) (hv:¬ 281474976710656#64 < v) (n:Nat) (h1:1≤n) (h8:n < 8) (hs:¬ 281474976710656#64 < HK v n + v):Ag M 263 [.ptr 0 [],DY v n] [(0,D1 (.sl 1 [] 0 n 4)),(1,.ar 4 n (DY v))] 2 (Q3 (Ah (.int .i64 0) (.int .i64 0)) [(0,D1 (.sl 2 [] 0 (n + 1) 4)),(2,.ar 4 (n + 1) (DY v))] 3):=by
 have hS:=KR ok v n Aa
 refine Ab ok.k263 rfl fun x hx=>?_
 have e0:((n:Int) < 0)=False:=eq_false Aa
 have e1:((8:Int)≤(n:Int))=False:=eq_false Aa
 refine es 2000 ?_;(simp only [ZG,Aac,DY,D1,e0,e1,LZ,seval])
 refine An (σ:=Nat) (fun j=>j≤n) (fun j=>fr 123 [(0,.ptr 0 []),(3,.ptr 2 []),(4,.int .i64 0),(5,.int .i64 0),(6,.int .i64 0),(7,W 0#64),(8,.bool false),(9,.int .i64 j)]) (fun _=>[(0,D1 (.sl 1 [] 0 n 4)),(1,.ar 4 n (DY v)),(2,DY v n)]) (fun _=>3) (fun j=>n - j) 0 Aa ?_ ?_
 ·refine Ao.fr [0,1,2] [] hx AQ Am ?_ ?_
  ·simp only [Int.natCast_zero,LY,seval]
  ·simp only [D1,DY,LY,seval]
 ·intro j hj
  refine es 2000 ?_
  by_cases h:j=n
  ·have d0:((j:Int) < (n:Int))=False:=eq_false Aa
   (simp only [D1,DY,d0,hv,LZ,seval])
   have zz:=Bb @D1.eq_1 @DY.eq_1;refine G0 (hS) ?_
   (simp only [hs,Nat.testBit,List.map_nil,List.map_cons,B3,LZ,seval])
   repeat refine sd ?_
   refine Ar.mk hx [0,1,867] [] (Ah (.int .i64 0) (.int .i64 0)) [(0,D1 (.sl 2 [] 0 (n + 1) 4)),(2,.ar 4 (n + 1) (DY v))] 3 Am (by (simp only [CU,D1,seval])) (by simp only [LV,Ah,LY,seval]) ?_ ⟨rfl,rfl,rfl⟩
   simp only [D1,DY,LY,seval]
   intro j hj
   by_cases h:j < n
   ·rw [if_pos h];simp only [LY,seval]
   ·obtain rfl:j=n:=Aa
    rw [if_neg h,if_pos (Nat.sub_self _)];simp only [LY,seval]
  ·have d0:((j:Int) < (n:Int))=True:=eq_true Aa
   have d1:(j < n)=True:=eq_true Aa
   have w0:IntKind.i64.wrap ((j:Int) + 1)=((j + 1:Nat):Int):=AZ
   (simp only [D1,DY,d0,d1,w0,LZ,seval])
   repeat refine sd ?_
   refine ⟨j + 1,by omega,by omega,?_⟩
   refine Ao.fr [0,1,2] [] hx AQ Am ?_ ?_
   ·simp only [LY,seval]
   ·simp only [D1,DY,LY,seval]
structure OkRi (M:Seat):Prop where
 l:OkLd M
 d:OkDl M
 k138:Au M 138 Aiz=true
def DD (v:BitVec 64) (n j:Nat):BitVec 64:=if j < n then v else 0#64
theorem K1 {M:Seat} (ok:OkRi M) (v:BitVec 64) (hv:¬ 281474976710656#64 < v) (hs:∀ n,n < 8→¬ 281474976710656#64 < HK v n + v):Ag M 138 [W v] [] 0 (Q3 (Ah (.ptr 0 []) (.ptr 1 [])) [(0,Aq (DD v 8) (HK v 8) 0#64 .nils 0#64),(1,D1 (.sl 2 [] 0 8 4)),(2,.ar 4 8 (DY v))] 3):=by
 refine Ab ok.k138 rfl fun x hx=>?_
 have hz:¬ 281474976710656#64 < 0#64 + v:=hs 0 Am
 have hp:=JJ ok.l (fun _=>0#64) 0#64 0#64 0#64 0 Am v hv hz
 have hd:=S2 ok.d v hv
 simp only [Int.natCast_zero,DY] at hp hd
 have z1:IntKind.i64.wrap 1=1:=rfl
 refine es 2000 ?_;(simp only [Aiz,Aif,LZ,seval])
 have zz:=@Aq.eq_1;refine Kb (MF ok.l) ?_
 (simp only [Aq,LZ,seval])
 refine AW ?_
 refine es 2000 ?_
 (simp only [LZ,seval])
 have zz:=@Aq.eq_1;refine SM [32] (hp) ?_
 (simp only [Aq,D1,LZ,seval])
 have zz:=Bb @D1.eq_1 @DY.eq_1;refine SM [64] (hd) ?_
 (simp only [Aq,D1,DY,z1,LZ,seval])
 refine An (σ:=Nat) (fun n=>1≤n∧n≤8) (fun n=>fr 30 [(0,W v),(4,.ptr 0 []),(5,.ptr 1 []),(13,.int .i64 n)]) (fun n=>[(0,Aq (DD v n) (HK v n) 0#64 .nils 0#64),(1,D1 (.sl 2 [] 0 n 4)),(2,.ar 4 n (DY v))]) (fun _=>3) (fun n=>8 - n) 1 ⟨by omega,by omega⟩ ?_ ?_
 ·refine Ao.fr [32,64,352] [] hx AQ Am ?_ ?_
  ·simp only [Int.cast_ofNat_Int,LY,seval]
  ·simp only [Aq,D1,DY,HK,LY,seval]
   intro j hj
   unfold DD
   by_cases h:j=0
   ·rw [if_pos h,if_pos Aa,BitVec.zero_add]
   ·rw [if_neg h,if_neg Aa]
 ·rintro n ⟨h1,h8⟩
  refine es 2000 ?_
  by_cases hn:n=8
  ·subst hn
   have d0:(((8:Nat):Int) < 8)=False:=eq_false Aa
   (simp only [Aq,D1,d0,LZ,seval])
   refine Ar.mk hx [0,1,2] [] (Ah (.ptr 0 []) (.ptr 1 [])) [(0,Aq (DD v 8) (HK v 8) 0#64 .nils 0#64),(1,D1 (.sl 2 [] 0 8 4)),(2,.ar 4 8 (DY v))] 3 Am (by (simp only [CU,seval])) (by simp only [LV,Ah,LY,seval]) (by simp only [Aq,D1,DY,LY,seval]) ⟨rfl,rfl,rfl⟩
  ·have hn:n < 8:=Aa
   have d0:((n:Int) < 8)=True:=eq_true Aa
   have w0:IntKind.i64.wrap ((n:Int) + 1)=((n + 1:Nat):Int):=AZ
   have hp:=JJ ok.l (DD v n) (HK v n) 0#64 0#64 n hn v hv (hs n hn)
   have hd:=Rq ok.d v hv n h1 hn (hs n hn)
   simp only [DY] at hd
   (simp only [Aq,D1,d0,LZ,seval])
   have zz:=@Aq.eq_1;refine SM [0] (hp) ?_
   (simp only [Aq,D1,LZ,seval])
   have zz:=Bb @D1.eq_1 @DY.eq_1;refine SM [1,2] (hd) ?_
   (simp only [Aq,D1,DY,w0,LZ,seval])
   refine ⟨n + 1,by omega,by omega,by omega,?_⟩
   refine Ao.fr [0,1,195] [] hx AQ Am ?_ ?_
   ·simp only [LY,seval]
   ·simp only [Aq,D1,DY,HK,LY,seval]
    intro j hj
    unfold DD
    by_cases h:j=n
    ·rw [if_pos h,if_neg (show ¬ n < n by omega),if_pos (show j < n + 1 by omega),BitVec.zero_add]
    ·rw [if_neg h]
     by_cases h2:j < n
     ·rw [if_pos h2,if_pos (show j < n + 1 by omega)]
     ·rw [if_neg h2,if_neg (show ¬ j < n + 1 by omega)]
variable {M:Seat}
structure OkPo (M:Seat):Prop where
 p:OkP M
 k130:Au M 130 W7=true
 k131:Au M 131 Abk=true
 k132:Au M 132 WO=true
 k260:Au M 260 Ad4=true
theorem D4 (ok:OkPo M):Ag M 130 [W 1#64] [] 0 (Q3 (AS (.int .i64 0) (W 0#64) .nili) [] 0):=by
 have h:=FO ok.p 1#64
 rw [show Cu 1#64=1 by decide] at h
 refine Ab ok.k130 rfl fun x hx=>?_
 have z0:IntKind.i64.wrap 0=0:=rfl
 refine es 2000 ?_;(simp only [W7,Xl,LZ,seval])
 refine Ak (h) ?_
 (simp only [z0,Lbp,seval])
 have zz:=@AS.eq_1;exact Bf hx [] ⟨rfl,rfl,rfl⟩
theorem P8 (ok:OkPo M):Ag M 260 [.int .i64 1,W 0#64] [] 0 (Q3 (Ah (W 2#64) .nili) [] 0):=by
 refine Ab ok.k260 rfl fun x hx=>?_
 refine es 2000 ?_;(simp only [Ad4,Aao,LZ,seval])
 have zz:=@Ah.eq_1;exact Bf hx [] ⟨rfl,rfl,rfl⟩
theorem GI (ok:OkPo M):Ag M 131 [W 1#64] [] 0 (Q3 (Ah (W 2#64) .nili) [] 0):=by
 refine Ab ok.k131 rfl fun x hx=>?_
 have z1:IntKind.i64.wrap 1=1:=rfl
 refine es 2000 ?_;(simp only [Abk,Aag,LZ,seval])
 refine Ak (D4 ok) ?_
 (simp only [AS,z1,LZ,seval])
 refine Ak (P8 ok) ?_
 (simp only [AH,seval])
 have zz:=@Ah.eq_1;exact Bf hx [] ⟨rfl,rfl,rfl⟩
theorem LI (ok:OkPo M):Ag M 132 [W 1#64] [] 0 (Q3 (Ah (W 0#64) (er 45)) [] 0):=by
 refine Ab ok.k132 rfl fun x hx=>?_
 refine es 2000 ?_;(simp only [WO,Xu,LZ,seval])
 refine Ak (D4 ok) ?_
 (simp only [AS,LZ,seval])
 have zz:=@Ah.eq_1;exact Bf hx [] ⟨rfl,rfl,rfl⟩
end Mv
