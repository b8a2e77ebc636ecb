/- A part. -/
import Derived.Test.YtlfkjfonpacelaaGreatDoorFS
set_option linter.all false
set_option maxRecDepth 20000
set_option maxHeartbeats 16000000
namespace Mv
open Go
def Ao4:LC:=(sr [A1 0 (.mv (.c (.bool false)))] (sr [kl 13 151 [(.c .nils)],mt 1 13] (sr [kl 14 156 [(cU 50)],mt 2 14] (.seq (sr [mt 15 1,A1 16 (.eq false true .ptr (.t 15) (.c .nilp)),mt 17 16,mg 18 17 false 2,A2 19 17 false (.eq false true .ptr (.t 18) (.c .nilp)),
  DG 20 17 19] (.cond (.t 20) (sr [A1 0 (.mv (.c (.bool false)))] .ret) .skip)) (sr [mt 22 1,kl 23 68 [],kl 24 152 [(.t 22),(.t 23),(cI 1)],mt 21 24,ee 25 21 0,ee 26 21 1,mt 3 25,mt 4 26] (.seq (sr [mt 27 4,A1 28 (.eq true true (.iface [74]) (.t 27) (.c .nili)),mt 29 28,mg 30 29 false 3,A2 31 29 false (.eq false true .ptr (.t 30) (.c .nilp)),
  DG 32 29 31] (.cond (.t 32) (sr [A1 0 (.mv (.c (.bool false)))] .ret) .skip)) (sr [mt 34 3,kl 35 153 [(.t 34)],mt 33 35,ee 36 33 0,ee 37 33 1,
  aB 5 32,sb 32 5 36,mt 4 37] (sr [mt 39 3,kl 40 154 [(.t 39),(cU 0)],mt 38 40,ee 41 38 0,ee 42 38 1,
  aB 6 32,sb 32 6 41,mt 7 42] (.seq (sr [mt 43 4,A1 44 (.eq true true (.iface [74]) (.t 43) (.c .nili)),mt 45 44,mg 46 45 false 7,A2 47 45 false (.eq true true (.iface [74]) (.t 46) (.c .nili)),
  DG 48 45 47,mt 49 48,A2 50 49 false (.load true 32 (.t 5)),A2 51 49 false (.load true 32 (.t 6)),A2 52 49 false (.eq false false (.ar 32 1 false .int) (.t 50) (.t 51)),
  DG 53 49 52] (.cond (.t 53) (sr [A1 0 (.mv (.c (.bool false)))] .ret) .skip)) (.seq (.regd [⟨0,0,la 55 32 5⟩,⟨1,1,kl 56 157 [(cI 1),(cU 10),(.t 55)]⟩,⟨2,0,mt 57 2⟩,⟨3,0,la 58 32 6⟩,⟨4,15,kl 59 112 [(.t 56),(.t 57),(cI 0),(.t 58),(cU 0)]⟩,⟨5,31,mt 54 59⟩,⟨6,63,ee 60 54 0⟩,⟨7,63,ee 61 54 1⟩,⟨8,127,mt 8 60⟩,⟨9,511,mt 4 61⟩]) (.seq (sr [mt 62 4,A1 63 (.eq true true (.iface [74]) (.t 62) (.c .nili)),mt 64 63,mg 65 64 false 8,A2 66 64 false (.eq false true .ptr (.t 65) (.c .nilp)),
  DG 67 64 66] (.cond (.t 67) (sr [A1 0 (.mv (.c (.bool false)))] .ret) .skip)) (sr [mt 69 8,mt 70 3,kl 71 124 [(.t 69),(.t 70)],mt 68 71,ee 72 68 0,ee 73 68 1,mt 9 72,mt 4 73] (sr [mt 75 8,A1 76 (.build (.ar 32 (.int .u8)) [(.i 1 0,1,(.c (.int .u8 1)))]),kl 77 110 [(.t 75),(cI 0),(.c (.bool false)),(.t 76),(cI 1),(cU 2),(cU 1)],mt 74 77,ee 78 74 0,ee 79 74 1,mt 10 78,mt 7 79] (sr [mt 81 8,mt 82 3,kl 83 124 [(.t 81),(.t 82)],mt 80 83,ee 84 80 0,ee 85 80 1,mt 11 84,mt 12 85] (sr [mt 86 4,A1 87 (.eq false true (.iface [74]) (.t 86) (.c .nili)),mt 88 87,mg 89 88 true 7,A2 90 88 true (.eq false true (.iface [74]) (.t 89) (.c .nili)),
  Ju 91 88 90,mt 92 91,mg 93 92 true 12,A2 94 92 true (.eq false true (.iface [74]) (.t 93) (.c .nili)),
  Ju 95 92 94,mt 96 95,mg 97 96 true 10,A2 98 96 true (.ari .eql (.t 97) (cI 1)),
  Ju 99 96 98,mt 100 99,mg 101 100 true 9,A2 102 100 true (.len 0 (.t 101)),A2 103 100 true (.ari .eql (.t 102) (cI 0)),
  Ju 104 100 103,mt 105 104,mg 106 105 true 11,A2 107 105 true (.len 0 (.t 106)),A2 108 105 true (.ari .eql (.t 107) (cI 1)),
  Ju 109 105 108,mt 110 109,mg 111 110 true 11,A2 112 110 true (.isl 151 (.t 111) (cI 0)),A2 113 110 true (.fadr 0 (.t 112)),A2 114 110 true (.load false 1 (.t 113)),A2 115 110 true (.ari .eql (.t 114) (cI 1)),
  Ju 116 110 115,mt 117 116,mg 118 117 true 11,A2 119 117 true (.isl 151 (.t 118) (cI 0)),A2 120 117 true (.fadr 1 (.t 119)),A2 121 117 true (.load false 1 (.t 120)),
  Ju 122 117 121,mt 123 122,mg 124 123 true 11,A2 125 123 true (.isl 151 (.t 124) (cI 0)),A2 126 123 true (.fadr 2 (.t 125)),A2 127 123 true (.load false 1 (.t 126)),A2 128 123 true (.un .not (.t 127)),
  Ju 129 123 128,mt 0 129] .ret)))))))))))))))
def Aju:LF:=⟨Ao4,0,0,130,[.tmp 0]⟩
def Afn:LC:=(sr [A1 4 (.mv (.c .nils)),mn 5] (sr [mt 19 0,mt 20 1,kl 21 254 [(.t 19),(.t 20)],mt 18 21,ee 22 18 0,ee 23 18 1,mt 6 22,mt 7 23] (.seq (sr [mt 24 7,A1 25 (.eq true true (.iface [74]) (.t 24) (.c .nili))] (.cond (.t 25) (sr [mt 26 7,A1 4 (.mv (.c .nils)),mt 5 26] .ret) .skip)) (sr [A1 8 (.mv (.c .nils))] (.seq (sr [mt 27 6,nc 28 27,fa 29 2 28,lb 30 1 29,
  lN 31 0 30,
  mI 32 0] (.block 0 (.loop (sr [ak 33 .lss 32 31] (.seq (EQ 33 0) (.seq (.block 1 (sr [mt 34 32,ia 35 42 30 32,la 36 42 35,A1 10 (.alloc (.st (.cons (.int .i64) (.cons (.int .u64) (.cons (.ar 32 (.int .u8)) (.cons (.int .i64) (.cons (.int .i64) (.cons (.st (.cons (.int .u64) (.cons (.int .u64) .nil))) (.cons .bool (.cons .bool (.cons .bool (.cons (.int .i64) .nil)))))))))))),mt 9 34,sb 42 10 36] (sr [fa 38 1 10,lb 39 1 38,kl 40 130 [(.t 39)],mt 37 40,ee 41 37 0,ee 42 37 1,ee 43 37 2,mt 11 41,mt 12 42,mt 13 43] (.seq (sr [mt 44 11,aI 45 .rem 44 2,mt 46 6,nc 47 46,fa 48 4 47,lb 49 1 48,ak 50 .eql 45 49,mt 51 50,A2 52 51 false (.fadr 39 (.t 10)),A2 53 51 false (.load false 1 (.t 52)),
  DG 54 51 53,mt 55 54,mg 56 55 false 6,A2 57 55 false (.fadr 0 (.t 10)),A2 58 55 false (.load false 1 (.t 57)),⟨(some 59),.call 255 [(.t 56),(.t 58)],(some (55,false))⟩,A2 60 55 false (.un .not (.t 59)),
  DG 61 55 60] (.cond (.t 61) (.exit 1) .skip)) (.seq (.regd [⟨0,0,mt 62 9⟩,⟨1,0,mt 63 11⟩,⟨2,0,mt 64 1⟩,⟨3,4,nc 65 64⟩,⟨4,12,fa 66 1 65⟩,⟨5,28,lb 67 1 66⟩,⟨6,62,ak 68 .eql 63 67⟩,⟨7,0,mt 69 6⟩,⟨8,128,nc 70 69⟩,⟨9,384,fa 71 3 70⟩,⟨10,896,lb 72 1 71⟩,⟨11,0,mt 73 9⟩,⟨12,3968,ia 74 1 72 73⟩,⟨13,8064,lb 75 1 74⟩,⟨14,16383,A1 76 (.build (.st (.cons (.int .i64) (.cons .bool (.cons .bool (.cons (.ar 32 (.int .u8)) (.cons (.st (.cons (.ar 32 (.int .u8)) (.cons (.st (.cons (.ar 16 (.int .u64)) (.cons (.int .u64) (.cons .bool (.cons (.int .u64) .nil))))) (.cons .slice (.cons (.ar 64 (.int .u8)) .nil))))) .nil)))))) [(.f 0,1,(.t 62)),(.f 1,1,(.t 68)),(.f 2,1,(.t 75))])⟩,⟨15,0,A1 14 (.alloc (.st (.cons (.int .i64) (.cons .bool (.cons .bool (.cons (.ar 32 (.int .u8)) (.cons (.st (.cons (.ar 32 (.int .u8)) (.cons (.st (.cons (.ar 16 (.int .u64)) (.cons (.int .u64) (.cons .bool (.cons (.int .u64) .nil))))) (.cons .slice (.cons (.ar 64 (.int .u8)) .nil))))) .nil)))))))⟩,⟨16,65535,sb 151 14 76⟩]) (sr [mt 77 6,A1 78 (.mkfn 2000256 [(.t 77)]),mt 15 78] (.seq (sr [fa 79 1 14,lb 80 1 79] (.cond (.t 80) (.reg [mt 81 6,A1 82 (.mkfn 2000257 [(.t 81)]),mt 15 82]) .skip)) (sr [mt 84 15,la 85 42 10,⟨(some 86),.dyn (.t 84) [(.t 14),(.t 85)],none⟩,mt 83 86,ee 87 83 0,ee 88 83 1,mt 16 87,mt 17 88] (.seq (sr [mt 89 17,A1 90 (.eq true true (.iface [74]) (.t 89) (.c .nili))] (.cond (.t 90) (sr [mt 91 17,A1 4 (.mv (.c .nils)),mt 5 91] .ret) .skip)) (sr [mt 92 16] (.cond (.t 92) (.reg [mt 93 8,la 94 151 14,A1 95 (.bsl 151 1 (.st (.cons (.int .i64) (.cons .bool (.cons .bool (.cons (.ar 32 (.int .u8)) (.cons (.st (.cons (.ar 32 (.int .u8)) (.cons (.st (.cons (.ar 16 (.int .u64)) (.cons (.int .u64) (.cons .bool (.cons (.int .u64) .nil))))) (.cons .slice (.cons (.ar 64 (.int .u8)) .nil))))) .nil)))))) [(.i 151 0,151,(.t 94))]),
  aP 96 151 320 93 95,mt 8 96]) .skip))))))))))) (.reg [aI 97 .add 32 1,mt 32 97]))))))) (sr [mt 98 8,mt 4 98,mn 5] .ret))))))
def f124:LF:=⟨Afn,2,0,99,[.tmp 4,.tmp 5]⟩
variable {M:Seat}
structure OkHi (M:Seat):Prop where
 v:OkHv M
 k75:Av M 75 f75=true
 k124:Av M 124 f124=true
 k151:Av M 151 Yo=true
 k156:Av M 156 Ak5=true
 k157:Av M 157 Amm=true
theorem Lv (ok:OkHi M):Af M 151 [.nils] [] 0 (Q3 (.ptr 0 []) [(0,B3.v)] 1):=by
 have hW:Af M 75 [.nils] [] 0 (Q3 .nils [] 0):=by
  refine Ab ok.k75 rfl fun x hx=>?_
  refine es 2000 ?_;(simp only [f75,c75,LZ,seval])
  refine Au ?_
  refine es 2000 ?_
  (simp only [LZ,seval])
  exact Ap.mkZ hx [] ⟨rfl,rfl,rfl⟩
 have hL:=My ok.v.o.q.okA
 refine Ab ok.k151 rfl fun x hx=>?_
 refine es 2000 ?_;(simp only [Yo,Acz,LZ,seval])
 refine Ai (hW) ?_
 (simp only [LZ,seval])
 have zz:=@mach.eq_1;refine Ia (hL) ?_
 (simp only [BV,mach,seval])
 have zz:=CC @Mc.v.eq_1 @B3.eq_1 @mach.eq_1;exact Bz hx [48] ⟨rfl,rfl,rfl⟩
theorem PY (ok:OkHi M) (d:Int) (l:BitVec 64) (s:Dg):Af M 157 [.int .i64 d,W l,dg s] [] 0 (Q3 (Dc d l 0#64 s) [] 0):=by
 refine Ab ok.k157 rfl fun x hx=>?_
 refine es 2000 ?_;(simp only [Amm,Amb,LZ,seval])
 have zz:=CC @Dc.eq_1 @AJ.eq_1 @dg.eq_1;exact Bz hx [] ⟨rfl,rfl,rfl⟩
theorem Ri (ok:OkHi M) (v:BitVec 64) (hv:¬ 281474976710656#64 < v) (hs:∀ n,n < 8→¬ 281474976710656#64 < VV v n + v):Af M 156 [W v] [] 0 (Q3 (.ptr 0 []) [(0,BM (Jm v 8) (VV v 8) 0#64 .nils 0#64)] 1):=by
 have okL:=ok.v.g.t.s.v.g.l
 refine Ab ok.k156 rfl fun x hx=>?_
 refine es 2000 ?_;(simp only [Ak5,Ao1,LZ,seval])
 have zz:=@BM.eq_1;refine Ia (Ot okL) ?_
 (simp only [BM,LZ,seval])
 refine An (σ:=Nat) (fun n=>n≤8) (fun n=>fr 20 [(0,W v),(3,.ptr 0 []),(6,.int .i64 n)]) (fun n=>[(0,BM (Jm v n) (VV v n) 0#64 .nils 0#64)]) (fun _=>1) (fun n=>8 - n) 0 Aa ?_ ?_
 ·refine Ak.fr [16] [] hx AQ Aj ?_ ?_
  ·simp only [Int.natCast_zero,LY,seval]
  ·simp only [BM,VV,Jm,Nat.not_lt_zero,if_false,LY,seval]
 ·intro n h8
  refine es 2000 ?_
  by_cases hn:n=8
  ·subst hn
   have d0:(((8:Nat):Int) < 8)=False:=eq_false Aa
   (simp only [BM,d0,LZ,seval])
   have zz:=@BM.eq_1;exact Bz hx [0] ⟨rfl,rfl,rfl⟩
  ·have hn:n < 8:=Aa
   have d0:((n:Int) < 8)=True:=eq_true Aa
   have w0:IntKind.i64.wrap ((n:Int) + 1)=((n + 1:Nat):Int):=Bw
   have hp:=QM okL (Jm v n) (VV v n) 0#64 0#64 n hn v hv (hs n hn)
   (simp only [BM,d0,LZ,seval])
   have zz:=@BM.eq_1;refine FA [0] (hp) ?_
   (simp only [BM,w0,LZ,seval])
   refine ⟨n + 1,by omega,by omega,?_⟩
   refine Ak.fr [0] [] hx AQ Aj ?_ ?_
   ·simp only [LY,seval]
   ·simp only [BM,VV,LY,seval]
    intro j hj
    unfold Jm
    by_cases h:j=n
    ·rw [if_pos h,if_neg (show ¬ n < n by omega),if_pos (show j < n + 1 by omega),BitVec.zero_add]
    ·rw [if_neg h]
     by_cases h2:j < n
     ·rw [if_pos h2,if_pos (show j < n + 1 by omega)]
     ·rw [if_neg h2,if_neg (show ¬ j < n + 1 by omega)]
structure OkBg (M:Seat):Prop where
 s:OkAs M
 i:OkHi M
 pI:OkI M
 k77:Av M 77 f77=true
 g:OkMv M
theorem ME:∀ n,Cb (Gv n).pres
 | 0=>fun h p hk=>by simp [Gv,Dt] at hk
 | n + 1=>by rw [Gv];exact GY _ _ (ME n)
theorem WH (H:Hp) (m z:List Nat) (cm:BitVec 64→Dg) (ks vs:Nat→V):Ar H m z (KY cm []) (.mp 0 ks vs)=True:=by
 simp only [KY,Ar,List.length_nil,Nat.not_lt_zero,false_implies,implies_true,and_self]
def N0:LC:=(sr [mt 129 19,kl 130 54 [(.t 129)],mt 128 130,ee 131 128 0,ee 132 128 1,
 aB 25 32,sb 32 25 131,mt 26 132] (sr [mt 134 11,mt 135 14,kl 136 154 [(.t 134),(.t 135)],mt 133 136,ee 137 133 0,ee 138 133 1,
  aB 27 32,sb 32 27 137,mt 28 138] (sr [mt 139 28,A1 140 (.eq true true (.iface [74]) (.t 139) (.c .nili)),mt 141 140,A2 142 141 false (.load true 32 (.t 27)),A2 143 141 false (.load true 32 (.t 25)),A2 144 141 false (.eq true false (.ar 32 1 false .int) (.t 142) (.t 143)),
  DG 145 141 144,mt 146 145,mg 147 146 false 22,⟨(some 148),.call 168 [(.t 147)],(some (146,false))⟩,mg 149 146 false 24,⟨(some 150),.call 168 [(.t 149)],(some (146,false))⟩,A2 151 146 false (.ari .neq (.t 148) (.t 150)),
  DG 152 146 151,mt 153 152,A2 154 153 false (.fadr 0 (.t 23)),A2 155 153 false (.load true 32 (.t 154)),A2 156 153 false (.fadr 0 (.t 21)),A2 157 153 false (.load true 32 (.t 156)),A2 158 153 false (.eq true false (.ar 32 1 false .int) (.t 155) (.t 157)),
  DG 159 153 158,mt 160 159,A2 161 160 false (.fadr 32 (.t 23)),A2 162 160 false (.load true 19 (.t 161)),A2 163 160 false (.fadr 32 (.t 21)),A2 164 160 false (.load true 19 (.t 163)),A2 165 160 false (.eq true false (.st (.cons 0 16 true (.ar 16 1 false .int) (.cons 16 1 false .int (.cons 17 1 false .bool (.cons 18 1 false .int .nil))))) (.t 162) (.t 164)),
  DG 166 160 165,mt 167 166,A2 168 167 false (.fadr 51 (.t 23)),A2 169 167 false (.load false 1 (.t 168)),A2 170 167 false (.len 0 (.t 169)),A2 171 167 false (.fadr 51 (.t 21)),A2 172 167 false (.load false 1 (.t 171)),A2 173 167 false (.len 0 (.t 172)),A2 174 167 false (.ari .neq (.t 170) (.t 173)),
  DG 175 167 174] (.cond (.t 175) (sr [A1 6 (.mv (.c (.bool false)))] .ret) .skip))))
def Fx:LC:=(sr [mt 125 19,mt 126 20,kl 127 70 [(.t 125),(.t 126)]]
 (N0))
def Kh:LC:=(sr [mt 120 11,mt 121 14,kl 122 155 [(.t 120),(.t 121)],mt 119 122,ee 123 119 0,ee 124 119 1,A1 23 (.alloc (.st (.cons (.ar 32 (.int .u8)) (.cons (.st (.cons (.ar 16 (.int .u64)) (.cons (.int .u64) (.cons .bool (.cons (.int .u64) .nil))))) (.cons .slice (.cons (.ar 64 (.int .u8)) .nil)))))),sb 116 23 123,mt 24 124]
 (Fx))
def Kq:LC:=(sr [mt 114 19,mt 115 20,kl 116 97 [(.t 114),(.t 115)],mt 113 116,ee 117 113 0,ee 118 113 1,A1 21 (.alloc (.st (.cons (.ar 32 (.int .u8)) (.cons (.st (.cons (.ar 16 (.int .u64)) (.cons (.int .u64) (.cons .bool (.cons (.int .u64) .nil))))) (.cons .slice (.cons (.ar 64 (.int .u8)) .nil)))))),sb 116 21 117,mt 22 118]
 (Kh))
def Ac2:LC:=(.reg [aI 176 .add 70 1,mt 70 176])
def Rt:LC:=(sr [ak 71 .lss 70 69] (.seq (EQ 71 0) (.seq (.block 1 (sr [mt 72 70,ia 73 1 68 70,lb 74 1 73,mt 13 72,mt 14 74] (.seq (sr [mt 75 13,aI 76 .geq 75 6] (.cond (.t 76) (.exit 0) .skip)) (.seq (sr [mt 77 14,mt 78 1,
  Ep 79 .u64 78,
  aV 80 .shl 1 79,ak 81 .geq 77 80] (.cond (.t 81) (sr [mt 83 11,mt 84 14,kl 85 154 [(.t 83),(.t 84)],mt 82 85,ee 86 82 0,ee 87 82 1,
  aB 15 32,sb 32 15 86,mt 16 87] (sr [mt 89 11,mt 90 14,kl 91 155 [(.t 89),(.t 90)],mt 88 91,ee 92 88 0,ee 93 88 1,A1 17 (.alloc (.st (.cons (.ar 32 (.int .u8)) (.cons (.st (.cons (.ar 16 (.int .u64)) (.cons (.int .u64) (.cons .bool (.cons (.int .u64) .nil))))) (.cons .slice (.cons (.ar 64 (.int .u8)) .nil)))))),sb 116 17 92,mt 18 93] (.seq (sr [mt 94 16,A1 95 (.mkif 74 (cI 2)),kl 96 63 [(.t 94),(.t 95)],A1 97 (.un .not (.t 96)),mt 98 97,mg 99 98 false 18,A2 100 98 false (.mkif 74 (cI 2)),⟨(some 101),.call 63 [(.t 99),(.t 100)],(some (98,false))⟩,A2 102 98 false (.un .not (.t 101)),
  DG 103 98 102] (.cond (.t 103) (sr [A1 6 (.mv (.c (.bool false)))] .ret) .skip))
 (.exit 1)))) .skip)) (sr [mt 104 7,kl 105 49 [(.t 104)],mt 106 8,kl 107 167 [(.t 106)],mt 19 105,mt 20 107] (sr [mt 108 19,mt 109 20,mt 110 14,
  Ep 111 .i64 110,kl 112 71 [(.t 108),(.t 109),(.t 111)]]
 (Kq)))))))
 Ac2)))
def Xp:LC:=(sr [mt 178 11,kl 179 153 [(.t 178)],mt 177 179,ee 180 177 0,ee 181 177 1,
 aB 29 32,sb 32 29 180,mt 12 181] (sr [mt 183 7,kl 184 54 [(.t 183)],mt 182 184,ee 185 182 0,ee 186 182 1,
  aB 30 32,sb 32 30 185,mt 31 186] (.seq (.regd [⟨0,0,mt 187 12⟩,⟨1,1,A1 188 (.eq false true (.iface [74]) (.t 187) (.c .nili))⟩,⟨2,3,mt 189 188⟩,⟨3,7,mg 190 189 true 31⟩,⟨4,15,A2 191 189 true (.eq false true (.iface [74]) (.t 190) (.c .nili))⟩,⟨5,31,Ju 192 189 191⟩,⟨6,63,mt 193 192⟩,⟨7,127,A2 194 193 true (.load true 32 (.t 29))⟩,⟨8,127,A2 195 193 true (.load true 32 (.t 30))⟩,⟨9,511,A2 196 193 true (.eq false false (.ar 32 1 false .int) (.t 194) (.t 195))⟩,⟨10,1023,Ju 197 193 196⟩,⟨11,2047,mt 198 197⟩,⟨12,4095,mg 199 198 true 7⟩,⟨13,8191,A2 200 198 true (.nilc (.t 199))⟩,⟨14,16383,A2 201 198 true (.load true 8211 (.t 200))⟩,⟨15,4095,A2 202 198 true (.load true 8211 (.t 9))⟩,⟨16,65535,A2 203 198 true (.eq false false (.st (.cons 0 8192 true (.ar 8192 1 false .int) (.cons 8192 16 true (.ar 16 1 false .int) (.cons 8208 1 false .int (.cons 8209 1 false .bool (.cons 8210 1 false .int .nil)))))) (.t 201) (.t 202))⟩,⟨17,131071,Ju 204 198 203⟩,⟨18,262143,mt 205 204⟩,⟨19,524287,mg 206 205 true 8⟩,⟨20,1048575,⟨(some 207),.call 72 [(.t 206)],(some (205,true))⟩⟩,⟨21,524287,mg 208 205 true 10⟩,⟨22,4194303,A2 209 205 true (.ari .eql (.t 207) (.t 208))⟩,⟨23,8388607,Ju 210 205 209⟩,⟨24,16777215,mt 6 210⟩]) .ret)))
def c40:LC:=(sr [A1 6 (.mv (.c (.bool false)))] (sr [mt 32 0,kl 33 151 [(.t 32)],kl 34 68 [],mt 7 33,mt 8 34] (.seq (sr [mt 35 7,A1 36 (.eq false true .ptr (.t 35) (.c .nilp)),mt 37 36,mg 38 37 false 8,A2 39 37 false (.eq false true .ptr (.t 38) (.c .nilp)),
  DG 40 37 39,mt 41 40,⟨(some 42),.call 122 [],(some (41,false))⟩,A2 43 41 false (.un .not (.t 42)),
  DG 44 41 43] (.cond (.t 44) (sr [A1 6 (.mv (.c (.bool false)))] .ret) .skip)) (sr [mt 45 1,
  Ep 46 .u64 45,
  aU 47 .rem 46 5,
  Ep 48 .i64 47,
  aJ 49 .add 1 48,mt 1 49] (.seq (.regd [⟨3,0,mt 53 8⟩,⟨4,1,kl 54 72 [(.t 53)]⟩,⟨0,0,mt 50 7⟩,⟨1,4,nc 51 50⟩,⟨2,12,la 52 8211 51⟩,⟨5,0,A1 9 (.alloc (.st (.cons (.ar 8192 (.int .u64)) (.cons (.ar 16 (.int .u64)) (.cons (.int .u64) (.cons .bool (.cons (.int .u64) .nil)))))))⟩,⟨6,63,sb 8211 9 52⟩,⟨7,127,mt 10 54⟩]) (sr [mt 56 7,mt 57 8,mt 58 1,kl 59 152 [(.t 56),(.t 57),(.t 58)],mt 55 59,ee 60 55 0,ee 61 55 1,mt 11 60,mt 12 61] (.seq (sr [mt 62 12,A1 63 (.eq true true (.iface [74]) (.t 62) (.c .nili)),mt 64 63,mg 65 64 false 11,A2 66 64 false (.eq false true .ptr (.t 65) (.c .nilp)),
  DG 67 64 66] (.cond (.t 67) (sr [A1 6 (.mv (.c (.bool false)))] .ret) .skip)) (.seq (sr [mt 68 2,
  lN 69 0 68,
  mI 70 0] (.block 0 (.loop (Rt))))
 (Xp)))))))))
def f40:LF:=⟨c40,3,0,211,[.tmp 6]⟩
structure OkTr (M:Seat):Prop where
 t:OkPt M
 n:OkN M
 e:OkT M
 k40:Av M 40 f40=true
 k168:Av M 168 WT=true
 k70:Av M 70 OQ=true
theorem EC (m:List Nat) (h:m[4]?=some 3) (P:Pt):(Cu 4 P).ren m=Cu 3 P:=SE 4 3 m h P
theorem EI (H:Hp) (m z:List Nat) (h:m[4]?=some 3) (P:Pt):Ar H m z (Cu 4 P) (Cu 3 P)=True:=eq_true (DT H m z 4 3 h P)
theorem Bj (H:Hp) (m z:List Nat) (h:m[3]?=some 3) (P:Pt):Ar H m z (Cu 3 P) (Cu 3 P)=True:=eq_true (DT H m z 3 3 h P)
theorem Ajk (m:Mc) (e:Option Int) (l:List Pf) (p:Pr):∃ (R:Dg) (h:Hd) (L:List Pf) (P:Pr),GX m e l p=Ah (DM R h L P) (Cr e):=by
 cases e with
 | none=>exact ⟨_,_,_,_,rfl⟩
 | some e=>exact ⟨_,_,_,_,rfl⟩
theorem VS {M:Seat} (ok:OkTr M) (e:Option Int):∃ n:Int,Af M 168 [Cr e] [] 0 (Q3 (.int .i64 n) [] 0):=by
 cases e with
 | none=>exact ⟨0,Rk ok.n ok.k168⟩
 | some e=>exact ⟨e,XY ok.n ok.k168 e⟩
theorem Xi (c:Bool) (g:Nat→BitVec 64) (pc:BitVec 64) (b:Bool) (xt:BitVec 64):AI c (ES.st (ES.cons 0 16 true (ES.ar 16 1 false ES.int) (ES.cons 16 1 false ES.int (ES.cons 17 1 false ES.bool (ES.cons 18 1 false ES.int ES.nil))))) (.st 19 (.fcons 0 (.ar 1 16 fun j=>W (g j)) (.fcons 16 (W pc) (.fcons 17 (.bool b) (.fcons 18 (W xt) .fnil))))) (.st 19 (.fcons 0 (.ar 1 16 fun j=>W (g j)) (.fcons 16 (W pc) (.fcons 17 (.bool b) (.fcons 18 (W xt) .fnil)))))=True:=by
 simp [AI,W,V.fget,V.fhas]
 refine ⟨⟨⟨rfl,rfl,rfl⟩,fun _ _=>rfl⟩,⟨rfl,rfl,rfl⟩,⟨rfl,rfl,rfl⟩,rfl,rfl,rfl⟩
theorem Ya (g:Nat→BitVec 64) (pc:BitVec 64) (b:Bool) (xt:BitVec 64):AL (ES.st (ES.cons 0 16 true (ES.ar 16 1 false ES.int) (ES.cons 16 1 false ES.int (ES.cons 17 1 false ES.bool (ES.cons 18 1 false ES.int ES.nil))))) (.st 19 (.fcons 0 (.ar 1 16 fun j=>W (g j)) (.fcons 16 (W pc) (.fcons 17 (.bool b) (.fcons 18 (W xt) .fnil))))) (.st 19 (.fcons 0 (.ar 1 16 fun j=>W (g j)) (.fcons 16 (W pc) (.fcons 17 (.bool b) (.fcons 18 (W xt) .fnil)))))=true:=by
 simp [AL,W,V.fget,V.fhas]
def Ok (z i n:Nat) (d:Nat) (av:V):List V:=fr 211 [(1,.int .i64 d),(7,.ptr 0 []),(8,.ptr 1 []),(9,.ptr 6 []),(10,.int .i64 z),(11,.ptr 7 []),(68,av),(69,.int .i64 n),(70,.int .i64 i)]
def F8 (pm:Nat) (km:Nat) (sm:Nat) (va:V):V:=.st 4 (.fcons 0 (.map pm) (.fcons 1 (.ptr km []) (.fcons 2 (.map sm) (.fcons 3 va .fnil))))
noncomputable def DL (m0:Mc) (p0:List (Dg × Pr)) (d:Nat) (t:Tr):Hp :=
 [(0,mach m0.f m0.g m0.pc m0.hl m0.xt),(1,F8 2 3 5 .nils),(2,Bd A9 Pr.zero p0),(3,Aw 4 t.w.a t.w.b t.w.met),(4,Bd A9 Pr.zero t.w.ever),(5,BD []),(6,mach m0.f m0.g m0.pc m0.hl m0.xt),
  (7,Ax (.sl 9 [] 0 t.n 3) d (.map 10) (.map 8)),(8,Ey t.l),(9,.ar 3 t.n fun j=>Cu 3 (t.ps j)),(10,KY (Tu m0 p0) t.knl)]
def trG (z i n:Nat) (d:Nat) (av:V) (a:BitVec 64) (p q:Nat) (e f:V):List V:=fr 211 [(1,.int .i64 d),(7,.ptr 0 []),(8,.ptr 1 []),(9,.ptr 6 []),(10,.int .i64 z),(11,.ptr 7 []),(14,W a),(19,.ptr 11 []),(21,.ptr p []),(22,e),(23,.ptr q []),(24,f),(68,av),(69,.int .i64 n),(70,.int .i64 i)]
theorem Afm {M:Seat} (ok:OkTr M) {m0:Mc} {p0:List (Dg × Pr)} {x:Ctx} (hx:x.k=0) {Q:List V→Hp→Nat→Prop} {K:List It} (z i n d:Nat) (hd:d < 20) (av:V) (hav:∀ H m z,Bk H m z av av) (t:Tr) (ht:t.n < 32) (hp:Pts m0 p0 t.n t.ps) (a:BitVec 64) (ha:a.toNat < 2 ^ d)
 (R:Dg) (h:Hd) (L:List Pf) (P:Pr) (e:Option Int) (m1:Mc) (hm:m1=(xs m0 p0 (a.toNat + 1)).1)
 (hk:∀ t':Tr,t'.n≤t.n + 1→Pts m0 p0 t'.n t'.ps→AK M x Q K 11 (Ok z i n d av) (DL m0 p0 d t')) :
 AK M x Q (.code N0 :: K) 14 (trG z i n d av a 12 13 (Cr e) (Cr e)) (DL m0 p0 d t ++ [(11,mach m1.f m1.g m1.pc m1.hl m1.xt),(12,DM R h L P),(13,DM R h L P)]):=by
 have h20:2 ^ d≤2 ^ 20:=Nat.pow_le_pow_right Aj Aa
 obtain ⟨t',h1,h2,hA⟩:=Ao7 ok.t.a t ht hp d hd a ha
 have e1:Tu m0 p0 (a + 1#64)=m1.com:=by
  unfold Tu
  rw [hm,BitVec.toNat_add]
  show (xs m0 p0 ((a.toNat + 1) % 18446744073709551616)).1.com=_
  rw [Nat.mod_eq_of_lt Aa]
 rw [e1] at hA
 obtain ⟨nm,hNm⟩:=VS ok e
 have hO:Af M 54 [.imm (mach m1.f m1.g m1.pc m1.hl m1.xt)] [] 0 (Q3 (Ah (dg m1.com) .nili) [] 0):=S6 ok.t.s.q.okA ok.t.s.d m1.f m1.g m1.pc m1.hl m1.xt
 generalize m1.com=C at *
 have hk':=hk t' h1 h2
 simp only [Tr.H,Tr.H6,Ax,Aw] at hA
 have hk'':=hk'
 simp only [Ok] at hk'
 cases e with
 | none =>
   rw [Bm] at *
   rcases hA with hA | hA
   all_goals
    refine es 8 ?_
    (simp only [N0,trG,DL,F8,Ax,Aw,DM,Hd.v,E7,DX,seval])
    have zz:=@mach.eq_1;refine CV (hO) ?_
    (simp only [BV,seval])
    have zz:=F5 @Al @Be @EI @Ce;refine Df [7,8,9,10,3,4] [7,8,9,10,3,4] (hA) ?_
    (simp only [Dq,Ba,Ew,EC,E9,seval])
    refine Ai (hNm) ?_
    (simp only [LZ,seval])
    refine Ai (hNm) ?_
    (simp only [Xi,Ya,LZ,seval])
    refine AK.weak _ _ _ ?_ hk'
    unfold DL F8 Ax Aw
    first
    | refine Ak.fr [0, 1, 2, 3, 4, 5, 6, 7, 8, 9, 10] [] hx AQ Aj ?_ ?_
      ·simp only [hav,LY,seval]
      ·simp only [Al,Be,Bj,AA,Ay,Cm,seval]
       done
    | refine Ak.fr [0, 1, 2, 3, 4, 5, 6, 7, 8, 174, 10] [] hx AQ Aj ?_ ?_
      ·simp only [hav,LY,seval]
      ·simp only [Al,Be,Bj,AA,Ay,Cm,seval]
       done
 | some e =>
   rw [AE] at *
   rcases hA with hA | hA
   all_goals
    refine es 8 ?_
    (simp only [N0,trG,DL,F8,Ax,Aw,DM,Hd.v,E7,DX,seval])
    have zz:=@mach.eq_1;refine CV (hO) ?_
    (simp only [BV,seval])
    have zz:=F5 @Al @Be @EI @Ce;refine Df [7,8,9,10,3,4] [7,8,9,10,3,4] (hA) ?_
    (simp only [Dq,Ba,Ew,EC,E9,seval])
    refine Ai (hNm) ?_
    (simp only [LZ,seval])
    refine Ai (hNm) ?_
    (simp only [Xi,Ya,LZ,seval])
    refine AK.weak _ _ _ ?_ hk'
    unfold DL F8 Ax Aw
    first
    | refine Ak.fr [0, 1, 2, 3, 4, 5, 6, 7, 8, 9, 10] [] hx AQ Aj ?_ ?_
      ·simp only [hav,LY,seval]
      ·simp only [Al,Be,Bj,AA,Ay,Cm,seval]
       done
    | refine Ak.fr [0, 1, 2, 3, 4, 5, 6, 7, 8, 174, 10] [] hx AQ Aj ?_ ?_
      ·simp only [hav,LY,seval]
      ·simp only [Al,Be,Bj,AA,Ay,Cm,seval]
       done
def uH (s:SM) (va:V):Hp:=[(11,mach s.m.f s.m.g s.m.pc s.m.hl s.m.xt),(12,F8 13 3 14 va),(13,Bd A9 Pr.zero s.w.pres),(14,BD s.l)]
def Tr.wi (t:Tr) (w:WS):Tr:=⟨t.n,t.ps,w,t.l,t.knl⟩
def Lr (z i n:Nat) (d:Nat) (av:V) (a:BitVec 64) (p q:Nat) (e f:V):List V:=fr 211 [(1,.int .i64 d),(7,.ptr 0 []),(8,.ptr 1 []),(9,.ptr 6 []),(10,.int .i64 z),(11,.ptr 7 []),(14,W a),(19,.ptr 11 []),(20,.ptr 12 []),(21,.ptr p []),(22,e),(23,.ptr q []),(24,f),(68,av),(69,.int .i64 n),(70,.int .i64 i)]
def TR (z i n:Nat) (d:Nat) (av:V) (a:BitVec 64) (p:Nat) (e:V):List V:=fr 211 [(1,.int .i64 d),(7,.ptr 0 []),(8,.ptr 1 []),(9,.ptr 6 []),(10,.int .i64 z),(11,.ptr 7 []),(14,W a),(19,.ptr 11 []),(20,.ptr 12 []),(21,.ptr p []),(22,e),(68,av),(69,.int .i64 n),(70,.int .i64 i)]
def Vh (z i n:Nat) (d:Nat) (av:V) (a:BitVec 64):List V:=fr 211 [(1,.int .i64 d),(7,.ptr 0 []),(8,.ptr 1 []),(9,.ptr 6 []),(10,.int .i64 z),(11,.ptr 7 []),(14,W a),(19,.ptr 11 []),(20,.ptr 12 []),(68,av),(69,.int .i64 n),(70,.int .i64 i)]
theorem Aip {M:Seat} (ok:OkTr M) {m0:Mc} {p0:List (Dg × Pr)} {x:Ctx} (hx:x.k=0) {Q:List V→Hp→Nat→Prop} {K:List It} (z i n d:Nat) (hd:d < 20) (av:V) (hav:∀ H m z,Bk H m z av av) (t:Tr) (ht:t.n < 32) (hp:Pts m0 p0 t.n t.ps) (a:BitVec 64) (ha:a.toNat < 2 ^ d)
 (R:Dg) (h:Hd) (L:List Pf) (P:Pr) (e:Option Int) (s:SM) (hs:s.n < 1099511627776) (hX:(s.m,s.w.pres)=xs m0 p0 a.toNat)
 (hk:∀ t':Tr,t'.n≤t.n + 1→Pts m0 p0 t'.n t'.ps→AK M x Q K 11 (Ok z i n d av) (DL m0 p0 d t')) :
 (s.n=0→AK M x Q (.code Fx :: K) 17 (Lr z i n d av a 15 16 (Cr e) (Cr e)) (DL m0 p0 d (t.wi s.w) ++ uH s .nils ++ [(15,DM R h L P),(16,DM R h L P)])) ∧
 (0 < s.n→AK M x Q (.code Fx :: K) 18 (Lr z i n d av a 15 16 (Cr e) (Cr e)) (DL m0 p0 d (t.wi s.w) ++ uH s (.sl 17 [] 0 s.n 32) ++ [(15,DM R h L P),(16,DM R h L P),(17,.ar 32 s.n fun j=>dg (s.q j))])):=by
 obtain ⟨s',h0⟩:=Ij ok.e s
 obtain ⟨hst,he,-⟩:=h0 hs
 have hm:s'.m=(xs m0 p0 (a.toNat + 1)).1:=by
  show s'.m=Du (xs m0 p0 a.toNat).2 (xs m0 p0 a.toNat).1
  rw [← hX]
  exact (Prod.mk.inj he).1
 have hT:=Afm ok hx z i n d hd av hav (t.wi s'.w) ht hp a ha R h L P e s'.m hm hk
 have hv:∀ m:Mc,m.v=mach m.f m.g m.pc m.hl m.xt:=fun _=>rfl
 have hE:∀ H m z,Ar H m z (Cr e) (Cr e):=by intro H m z;cases e <;> simp only [Bm,AE,LY,seval]
 have hEV:∀ H m z,Bk H m z (Cr e) (Cr e):=by intro H m z;cases e <;> simp only [Bm,AE,LY,seval]
 simp only [uH,Tr.wi,DX]
 dsimp only [Tr.wi] at hT
 constructor
 ·intro hz
  rcases hst.1 with ⟨h1,hw⟩ | ⟨-,h1',h1⟩ | ⟨-,h1',h1⟩ | ⟨h0,-,-⟩ | ⟨h0,-,-⟩
  ·have hm1:Af M 70 [.ptr 0 [],.ptr 1 []] [(0,s.m.v)] 2 _:=h1
   have w1:s'.w=s.w:=by rw [hw]
   rw [hv s.m,hv s'.m] at hm1
   clear hw
   rw [w1] at hT
   refine es 2 ?_
   (simp only [Fx,Lr,DL,F8,Ax,Aw,DM,Hd.v,E7,DX,seval])
   have zz:=@mach.eq_1;refine Zg [11,12] [11] (hm1) ?_
   (simp only [As,Am,BA,seval])
   refine AK.weak _ _ _ ?_ hT
   unfold trG DL F8 Ax Aw DM
   refine Ak.fr [0,1,2,3,4,5,6,7,8,9,10,11,15,16] [] hx AQ Aj ?_ ?_
   ·simp only [hav,hEV,LY,seval]
   ·simp only [Hd.v,AP,DX,Al,Be,Bj,AA,AU,Ay,Cm,seval]
    done
  ·have hm1:Af M 70 [.ptr 5 [],.ptr 0 []] _ _ _:=h1
   simp only [Nh,Sh,AF,Jl,hv,Lt,Li] at hm1
   refine es 2 ?_
   (simp only [Fx,Lr,DL,F8,Ax,Aw,DM,Hd.v,E7,DX,seval])
   have zz:=Bc @mach.eq_1 EZ;refine FA [12,13,3,4,14,11] (hm1) ?_
   (simp only [As,Am,BA,seval])
   refine AK.weak _ _ _ ?_ hT
   unfold trG DL F8 Ax Aw DM
   refine Ak.fr [0,1,2,3,4,5,6,7,8,9,10,11,15,16] [] hx AQ Aj ?_ ?_
   ·simp only [hav,hEV,LY,seval]
   ·simp only [Hd.v,AP,DX,Al,Be,Bj,AA,AU,Ay,Cm,seval]
    done
  ·have hm1:Af M 70 [.ptr 5 [],.ptr 0 []] _ _ _:=h1
   simp only [Nh,Sh,AF,Jl,hv,Lt,Li] at hm1
   refine es 2 ?_
   (simp only [Fx,Lr,DL,F8,Ax,Aw,DM,Hd.v,E7,DX,seval])
   have zz:=Bc @mach.eq_1 EZ;refine FA [12,13,3,4,14,11] (hm1) ?_
   (simp only [As,Am,BA,seval])
   refine AK.weak _ _ _ ?_ hT
   unfold trG DL F8 Ax Aw DM
   refine Ak.fr [0,1,2,3,4,5,6,7,8,9,10,11,15,16] [] hx AQ Aj ?_ ?_
   ·simp only [hav,hEV,LY,seval]
   ·simp only [Hd.v,AP,DX,Al,Be,Bj,AA,AU,Ay,Cm,seval]
    done
  ·omega
  ·omega
 ·intro hz
  rcases hst.1 with ⟨h1,hw⟩ | ⟨h0,-,-⟩ | ⟨h0,-,-⟩ | ⟨-,h1',h1⟩ | ⟨-,h1',h1⟩
  ·have hm1:Af M 70 [.ptr 0 [],.ptr 1 []] [(0,s.m.v)] 2 _:=h1
   have w1:s'.w=s.w:=by rw [hw]
   rw [hv s.m,hv s'.m] at hm1
   clear hw
   rw [w1] at hT
   refine es 2 ?_
   (simp only [Fx,Lr,DL,F8,Ax,Aw,DM,Hd.v,E7,DX,seval])
   have zz:=@mach.eq_1;refine Zg [11,12] [11] (hm1) ?_
   (simp only [As,Am,BA,seval])
   refine AK.weak _ _ _ ?_ hT
   unfold trG DL F8 Ax Aw DM
   refine Ak.fr [0,1,2,3,4,5,6,7,8,9,10,11,15,16] [] hx AQ Aj ?_ ?_
   ·simp only [hav,hEV,LY,seval]
   ·simp only [Hd.v,AP,DX,Al,Be,Bj,AA,AU,Ay,Cm,seval]
    done
  ·omega
  ·omega
  ·have hm1:Af M 70 [.ptr 5 [],.ptr 0 []] _ _ _:=h1
   simp only [Nh,Sh,AF,Jl,hv,Lt,Li] at hm1
   refine es 2 ?_
   (simp only [Fx,Lr,DL,F8,Ax,Aw,DM,Hd.v,E7,DX,seval])
   have zz:=Bc @mach.eq_1 EZ;refine FA [12,13,3,4,14,11,17] (hm1) ?_
   (simp only [As,Am,BA,seval])
   refine AK.weak _ _ _ ?_ hT
   unfold trG DL F8 Ax Aw DM
   refine Ak.fr [0,1,2,3,4,5,6,7,8,9,10,11,15,16] [] hx AQ Aj ?_ ?_
   ·simp only [hav,hEV,LY,seval]
   ·simp only [Hd.v,AP,DX,Al,Be,Bj,AA,AU,Ay,Cm,seval]
    done
  ·have hm1:Af M 70 [.ptr 5 [],.ptr 0 []] _ _ _:=h1
   simp only [Nh,Sh,AF,Jl,hv,Lt,Li] at hm1
   refine es 2 ?_
   (simp only [Fx,Lr,DL,F8,Ax,Aw,DM,Hd.v,E7,DX,seval])
   have zz:=Bc @mach.eq_1 EZ;refine FA [12,13,3,4,14,11,17] (hm1) ?_
   (simp only [As,Am,BA,seval])
   refine AK.weak _ _ _ ?_ hT
   unfold trG DL F8 Ax Aw DM
   refine Ak.fr [0,1,2,3,4,5,6,7,8,9,10,11,15,16] [] hx AQ Aj ?_ ?_
   ·simp only [hav,hEV,LY,seval]
   ·simp only [Hd.v,AP,DX,Al,Be,Bj,AA,AU,Ay,Cm,seval]
    done
end Mv
