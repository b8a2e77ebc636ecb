/- A part. -/
import Derived.Test.YtpcgkiecjakknaaGreatDoorDO
set_option linter.all false
set_option maxRecDepth 20000
set_option maxHeartbeats 32000000
namespace Mv
open Go
def c29:LC:=(sr [bX 3 0,
 bX 5 2,A1 6 (.mv (.c (.bool false)))] (sr [la 29 7 3,mt 30 1,kl 31 127 [(.t 29),(.t 30)],mt 28 31,ee 32 28 0,ee 33 28 1,ee 34 28 2,mt 7 32,mt 8 33,mt 9 34] (sr [kl 36 128 [(cI 3)],mt 35 36,ee 37 35 0,ee 38 35 1,A1 10 (.alloc (.st (.cons (.ar 32 (.int .u8)) (.cons .slice (.cons .slice .nil))))),sb 34 10 37,mt 11 38] (.seq (sr [mt 39 7,A1 40 (.eq false true .ptr (.t 39) (.c .nilp)),mt 41 40,mg 42 41 false 11,A2 43 41 false (.un .not (.t 42)),
  BV 44 41 43,mt 45 44,⟨(some 46),.call 116 [],(some (45,false))⟩,A2 47 45 false (.un .not (.t 46)),
  BV 48 45 47] (.cond (.t 48) (sr [A1 6 (.mv (.c (.bool false)))] .ret) .skip)) (sr [A1 12 (.mv (.c .nils))] (.seq (sr [mt 49 7,kl 50 117 [(.t 49)],
  mI 51 0] (.block 0 (.loop (sr [ak 52 .lss 51 50] (.seq (Dd 52 0) (.seq (.block 1 (sr [mt 53 51,mt 13 53] (sr [mt 55 7,mt 56 13,kl 57 111 [(.t 55),(.t 56)],mt 54 57,ee 58 54 0,ee 59 54 1,A1 14 (.alloc (.st (.cons (.int .i64) (.cons (.int .u64) (.cons (.ar 32 (.int .u8)) (.cons (.int .i64) (.cons (.int .i64) (.cons (.st (.cons (.int .u64) (.cons (.int .u64) .nil))) (.cons .bool (.cons .bool (.cons .bool (.cons (.int .i64) .nil)))))))))))),sb 42 14 58,mt 15 59] (.reg [mt 60 12,la 61 42 14,A1 62 (.bsl 42 1 (.st (.cons (.int .i64) (.cons (.int .u64) (.cons (.ar 32 (.int .u8)) (.cons (.int .i64) (.cons (.int .i64) (.cons (.st (.cons (.int .u64) (.cons (.int .u64) .nil))) (.cons .bool (.cons .bool (.cons .bool (.cons (.int .i64) .nil))))))))))) [(.i 42 0,42,(.t 61))]),
  aP 63 42 96 60 62,mt 12 63])))) (.reg [aI 64 .add 51 1,mt 51 64]))))))) (sr [A1 16 (.alloc (.ar 8 (.int .u64)))] (.seq (sr [mI 65 0] (.block 2 (.loop (sr [aI 66 .lss 65 8] (.seq (Dd 66 2) (.seq (.block 3 (sr [mt 67 65,mt 17 67] (.reg [mt 69 17,mt 70 8,mt 71 17,kl 72 126 [(.t 70),(.t 71)],mt 68 72,ee 73 68 0,ee 74 68 1,ib 75 8 1 16 69,sb 1 75 73]))) (.reg [aI 76 .add 65 1,mt 65 76]))))))) (sr [fa 77 1 5,lb 78 1 77,aI 79 .geq 78 0,mt 80 79,A2 81 80 true (.fadr 1 (.t 5)),A2 82 80 true (.load false 1 (.t 81)),mg 83 80 true 12,A2 84 80 true (.len 0 (.t 83)),A2 85 80 true (.ari .lss (.t 82) (.t 84)),
  Fq 86 80 85,mt 87 86,mg 88 87 true 12,A2 89 87 true (.fadr 1 (.t 5)),A2 90 87 true (.load false 1 (.t 89)),A2 91 87 true (.isl 42 (.t 88) (.t 90)),A2 92 87 true (.fadr 39 (.t 91)),A2 93 87 true (.load false 1 (.t 92)),
  Fq 94 87 93,mt 18 94] (sr [mn 19] (.seq (sr [fa 95 0 5,lb 96 1 95,aI 97 .rem 96 3] (.block 4 (sr [aI 104 .eql 97 1,mt 103 104] (.cond (.t 103) (.regd [⟨5,0,la 111 34 10⟩,⟨6,0,fa 112 3 5⟩,⟨7,2,lb 113 1 112⟩,⟨8,7,kl 114 129 [(.t 111),(.t 113)]⟩,⟨0,0,mt 106 7⟩,⟨1,0,fa 107 1 5⟩,⟨2,32,lb 108 1 107⟩,⟨3,0,fa 109 2 5⟩,⟨4,128,lb 110 1 109⟩,⟨9,0,fa 115 4 5⟩,⟨10,512,lb 116 1 115⟩,⟨11,0,fa 117 5 5⟩,⟨12,2048,lb 118 1 117⟩,⟨13,0,mt 119 9⟩,⟨14,16383,kl 120 110 [(.t 106),(.t 108),(.t 110),(.t 114),(.t 116),(.t 118),(.t 119)]⟩,⟨15,32767,mt 105 120⟩,⟨16,65535,ee 121 105 0⟩,⟨17,65535,ee 122 105 1⟩,⟨18,262143,mt 19 122⟩]) (sr [aI 124 .eql 97 2,mt 123 124] (.cond (.t 123) (.regd [⟨0,0,mt 125 7⟩,⟨1,0,fa 126 1 5⟩,⟨2,2,lb 127 1 126⟩,⟨3,0,fa 128 2 5⟩,⟨4,8,lb 129 1 128⟩,⟨5,0,fa 130 33 10⟩,⟨6,32,lb 131 1 130⟩,⟨7,0,fa 132 3 5⟩,⟨8,128,lb 133 1 132⟩,⟨9,384,D0 134 .u64 133⟩,⟨10,896,aU 135 .rem 134 8⟩,⟨11,1920,D0 136 .i64 135⟩,⟨12,4064,ia 137 116 131 136⟩,⟨13,8160,la 138 116 137⟩,⟨14,0,fa 139 4 5⟩,⟨15,16384,lb 140 1 139⟩,⟨16,0,mt 141 9⟩,⟨17,131071,kl 142 114 [(.t 125),(.t 127),(.t 129),(.t 138),(.t 140),(.t 141)]⟩,⟨18,262143,mt 19 142⟩]) (.reg [mt 98 7,fa 99 1 5,lb 100 1 99,mt 101 9,kl 102 115 [(.t 98),(.t 100),(.t 101)],mt 19 102]))))))) (.seq (sr [mt 143 19,A1 144 (.eq false true (.iface [74]) (.t 143) (.c .nili))] (.cond (.t 144) (sr [mt 145 18,A1 146 (.un .not (.t 145)),mt 6 146] .ret) .skip)) (sr [A1 20 (.alloc .ptr)] (.seq (.seq (.regd [⟨0,0,mt 147 19⟩,⟨1,0,A1 148 (.mkif 147 (.t 20))⟩,⟨2,3,kl 149 93 [(.t 147),(.t 148)]⟩,⟨3,7,A1 150 (.un .not (.t 149))⟩,⟨4,15,mt 151 150⟩,⟨5,31,A2 152 151 false (.load false 1 (.t 20))⟩,⟨6,63,A2 153 151 false (.nilc (.t 152))⟩,⟨7,127,A2 154 151 false (.fadr 0 (.t 153))⟩,⟨8,255,A2 155 151 false (.load false 1 (.t 154))⟩,⟨9,31,A2 156 151 false (.fadr 1 (.t 5))⟩,⟨10,543,A2 157 151 false (.load false 1 (.t 156))⟩,⟨11,2047,A2 158 151 false (.ari .neq (.t 155) (.t 157))⟩,⟨12,4095,BV 159 151 158⟩,⟨13,8191,mt 160 159⟩,⟨14,16383,mg 161 160 false 7⟩,⟨15,32767,⟨(some 162),.call 117 [(.t 161)],(some (160,false))⟩⟩,⟨16,16383,mg 163 160 false 12⟩,⟨17,81919,A2 164 160 false (.len 0 (.t 163))⟩,⟨18,262143,A2 165 160 false (.ari .neq (.t 162) (.t 164))⟩,⟨19,524287,BV 166 160 165⟩]) (.cond (.t 166) (sr [A1 6 (.mv (.c (.bool false)))] .ret) .skip)) (.seq (sr [mt 167 12,
  lN 168 0 167,
  mI 169 0] (.block 5 (.loop (sr [ak 170 .lss 169 168] (.seq (Dd 170 5) (.seq (.block 6 (sr [mt 171 169,ia 172 42 167 169,la 173 42 172,A1 22 (.alloc (.st (.cons (.int .i64) (.cons (.int .u64) (.cons (.ar 32 (.int .u8)) (.cons (.int .i64) (.cons (.int .i64) (.cons (.st (.cons (.int .u64) (.cons (.int .u64) .nil))) (.cons .bool (.cons .bool (.cons .bool (.cons (.int .i64) .nil)))))))))))),mt 21 171,sb 42 22 173] (sr [mt 175 7,mt 176 21,kl 177 111 [(.t 175),(.t 176)],mt 174 177,ee 178 174 0,ee 179 174 1,A1 23 (.alloc (.st (.cons (.int .i64) (.cons (.int .u64) (.cons (.ar 32 (.int .u8)) (.cons (.int .i64) (.cons (.int .i64) (.cons (.st (.cons (.int .u64) (.cons (.int .u64) .nil))) (.cons .bool (.cons .bool (.cons .bool (.cons (.int .i64) .nil)))))))))))),sb 42 23 178,mt 24 179] (sr [la 180 42 23,la 181 42 22,A1 182 (.eq true false (.st (.cons 0 1 false .int (.cons 1 1 false .int (.cons 2 32 true (.ar 32 1 false .int) (.cons 34 1 false .int (.cons 35 1 false .int (.cons 36 2 true (.st (.cons 0 1 false .int (.cons 1 1 false .int .nil))) (.cons 38 1 false .bool (.cons 39 1 false .bool (.cons 40 1 false .bool (.cons 41 1 false .int .nil))))))))))) (.t 180) (.t 181))] (.cond (.t 182) (sr [A1 6 (.mv (.c (.bool false)))] .ret) .skip))))) (.reg [aI 183 .add 169 1,mt 169 183]))))))) (.seq (sr [mI 184 0] (.block 7 (.loop (sr [aI 185 .lss 184 8] (.seq (Dd 185 7) (.seq (.block 8 (sr [mt 186 184,mt 25 186] (sr [mt 188 8,mt 189 25,kl 190 126 [(.t 188),(.t 189)],mt 187 190,ee 191 187 0,ee 192 187 1,mt 26 191,mt 27 192] (sr [mt 193 26,mt 194 25,ib 195 8 1 16 194,lb 196 1 195,ak 197 .neq 193 196] (.cond (.t 197) (sr [A1 6 (.mv (.c (.bool false)))] .ret) .skip))))) (.reg [aI 198 .add 184 1,mt 184 198]))))))) (sr [A1 6 (.mv (.c (.bool true)))] .ret)))))))))))))))))
def f29:LF:=⟨c29,3,0,199,[.tmp 6]⟩
theorem O8 (c:Cl):AD false (ES.st (ES.cons 0 1 false ES.int (ES.cons 1 1 false ES.int (ES.cons 2 32 true (ES.ar 32 1 false ES.int) (ES.cons 34 1 false ES.int (ES.cons 35 1 false ES.int (ES.cons 36 2 true (ES.st (ES.cons 0 1 false ES.int (ES.cons 1 1 false ES.int ES.nil))) (ES.cons 38 1 false ES.bool (ES.cons 39 1 false ES.bool (ES.cons 40 1 false ES.bool (ES.cons 41 1 false ES.int ES.nil))))))))))) c.v c.v=True:=by
 simp [AD,Cl.v,Ac,W,dg,B,V.fget,V.fhas]
 (repeat' apply And.intro) <;> first | rfl | (intro i hi;rfl)
theorem Pb (c:Cl):AK (ES.st (ES.cons 0 1 false ES.int (ES.cons 1 1 false ES.int (ES.cons 2 32 true (ES.ar 32 1 false ES.int) (ES.cons 34 1 false ES.int (ES.cons 35 1 false ES.int (ES.cons 36 2 true (ES.st (ES.cons 0 1 false ES.int (ES.cons 1 1 false ES.int ES.nil))) (ES.cons 38 1 false ES.bool (ES.cons 39 1 false ES.bool (ES.cons 40 1 false ES.bool (ES.cons 41 1 false ES.int ES.nil))))))))))) c.v c.v=true:=by
 simp [AK,Cl.v,Ac,W,dg,B,V.fget,V.fhas]
structure OkHo (M:Seat):Prop where
 g:OkGa M
 k29:Au M 29 f29=true
theorem IM {M:Seat} (ok:OkHo M) (a:Ga) (n:Nat) (l:Nat→Op) (sv:V) (hs:sv=C3 n l ∨ (sv = .nils∧n=0)) (hn:n < 9223372036854775808) (o:Op) :
 Ag M 29 [a.v,sv,o.v] [] 0 (Q3 (.bool true) [] 0):=by
 have hvv:=VZ hs
 have hPl:=DX ok.g.p a n l sv hs hn
 have hF:=CI ok.g.f
 have hG:=G3 a n l
 have hTr:=H5 ok.g.p.td 3 Am
 have hV:∀ i C,Ag M 98 [dg C,BI (Dp (tm i).f 13 0) (tm i).h (CV (C7 16).pres (tm i)).2.1 (CV (C7 16).pres (tm i)).2.2] [] 0 (Q3 (Ah (dg (Z8 i C).1) (B7 (Z8 i C).2)) [] 0):=fun i C=>H6 ok.g.p.td.o C _ _ _ _
 rw [show (2:Nat) ^ 3=8 from rfl] at hTr
 have hVl:=FN ok.g.p.tv (tm 0).com 8 tC
 obtain ⟨L,P,hL,hPr⟩:∃ (L:Nat→List Pf) (P:Nat→Pr),(∀ i,(CV (C7 16).pres (tm i)).2.1=L i)∧∀ i,(CV (C7 16).pres (tm i)).2.2=P i:=⟨_,_,fun _=>rfl,fun _=>rfl⟩
 obtain ⟨R,hR⟩:∃ R:Nat→Dg,∀ i,Dp (tm i).f 13 0=R i:=⟨_,fun _=>rfl⟩
 obtain ⟨h,hh⟩:∃ h:Nat→Hd,∀ i,(tm i).h=h i:=⟨_,fun _=>rfl⟩
 have hC:∀ i,(tm (i + 1)).com=tC i:=fun _=>rfl
 simp only [hL,hPr,hR,hh,hC] at hTr hV
 clear hL hPr hR hh hC
 generalize (DF a n l).2=t at *
 generalize (DF a n l).1=G at *
 generalize tC=C at *
 generalize Z8=vf at *
 generalize (tm 0).com=s0 at *
 have hCl:=fun j hj=>BW ok.g.p.g G.D G.l G.g G.s G.n G.c j hj
 have hLn:=De ok.g.p.g G.D G.l G.g G.s G.n
 have hBl:=fun p hp=>J9 ok.g.p.g.t.s.le G.b G.i G.o G.n G.k p hp
 simp only [Gs.H,Ai,Al,Ac] at hPl
 have hn0:=hG.n0
 have hn64:=hG.w.hn
 refine Ab ok.k29 rfl fun x hx=>?_
 refine es 2000 ?_;(simp only [f29,c29,Ga.v,Op.v,LZ,seval])
 have zz:=BT @Ai.eq_1 @Al.eq_1 @Ac.eq_1 @Ap.eq_1 @Aq.eq_1 @A7.eq_1 @A4.eq_1 @Cl.v.eq_1 @Ga.v.eq_1 @dg.eq_1 hvv;refine Kb (hPl) ?_
 (simp only [AS,Ai,Al,Ac,Ap,Aq,A7,A4,Cl.v,LZ,seval])
 have zz:=Db @CY.eq_1 @BI.eq_1 @Hd.v.eq_1 @AM.eq_1 @dg.eq_1 Fs;refine Bw [] [] (hTr) ?_
 (simp only [Oh,CY,BI,Hd.v,AM,seval])
 refine Ak (hF) ?_
 (simp only [LZ,seval])
 have zz:=GM @Ai.eq_1 @Al.eq_1 @Ac.eq_1 @Ap.eq_1 @dg.eq_1;refine Bw [80,81,82] [80] (hLn) ?_
 (simp only [Ai,Al,Ac,LZ,seval])
 have q0:((0:Int) < (G.n:Int))=True:=eq_true Aa
 have h00:=hCl 0 hn0
 simp only [Int.natCast_zero] at h00
 have z11:IntKind.i64.wrap 1=((1:Nat):Int):=rfl
 refine AW ?_
 refine es 2000 ?_
 (simp only [q0,LZ,seval])
 have zz:=Db @Ai.eq_1 @Al.eq_1 @Ac.eq_1 @Ap.eq_1 @Cl.v.eq_1 @dg.eq_1;refine Bw [80,81,82] [80,81] (h00) ?_
 (simp only [AH,Ai,Al,Ac,Ap,Cl.v,seval])
 repeat refine sd ?_
 refine An (σ:=Nat) (fun i=>1≤i∧i≤G.n) (fun i=>fr 199 [(5,.ptr 4 []),(7,.ptr 0 []),(8,.ptr 2 []),(9,W t),(10,.ptr 5 []),(12,.sl 6 [] 0 i 42),(50,.int .i64 G.n),(51,.int .i64 i)]) (fun i=>G.H ++ [(4,o.v),(5,CY s0 (.lst 32 8 fun j=>dg (C j)) (.lst 116 8 fun i=>BI (R i) (h i) (L i) (P i))),(6,Ap i G.c)]) (fun _=>7) (fun i=>G.n - i) 1 ⟨by omega,hn0⟩ ?_ ?_
 ·refine Ao.fr [80,81,82,83,16,272,784] [] hx AQ Am ?_ ?_
  ·simp only [z11,LY,seval]
  ·simp only [Gs.H,Ai,Al,Ac,Ap,Cl.v,Aq,A7,A4,CY,BI,Hd.v,AM,Op.v,dg,Be,Fz,B3,seval]
   intro j hj
   obtain rfl:j=0:=Aa
   simp only [if_true,LY,seval]
 ·rintro i ⟨h1,hi⟩
  refine es 2000 ?_
  by_cases hin:i=G.n
  ·have w0:((i:Int) < (G.n:Int))=False:=eq_false Aa
   subst hin
   (simp only [w0,Gs.H,Ai,Al,Ac,Ap,Aq,A7,A4,Cl.v,CY,BI,Hd.v,CR,Op.v,B3,seval])
   refine An (σ:=Nat) (fun i=>i≤8) (fun i=>fr 199 [(5,.ptr 4 []),(7,.ptr 0 []),(8,.ptr 2 []),(9,W t),(10,.ptr 5 []),(12,.sl 6 [] 0 G.n 42),(16,.ptr 7 []),(65,.int .i64 i)]) (fun i=>G.H ++ [(4,o.v),(5,CY s0 (.lst 32 8 fun j=>dg (C j)) (.lst 116 8 fun i=>BI (R i) (h i) (L i) (P i))),(6,Ap G.n G.c),(7,.ar 1 8 fun j=>W (if j < i then G.b j else 0#64))]) (fun _=>8) (fun i=>8 - i) 0 Aa ?_ ?_
   ·refine Ao.fr [0,1,2,3,4,5,6,23] [] hx AQ Am ?_ ?_
    ·simp only [Int.natCast_zero,LY,seval]
    ·simp only [Gs.H,Ai,Al,Ac,Ap,Cl.v,Aq,A7,A4,CY,BI,Hd.v,AM,Op.v,dg,Be,Fz,Nat.not_lt_zero,if_false,B3,seval]
   ·intro i hi
    refine es 2000 ?_
    by_cases hi8:i=8
    ·subst hi8
     have w0:(((8:Nat):Int) < 8)=False:=eq_false Aa
     have hv:(o.cl < 0 ∨ (G.n:Int)≤o.cl ∨ (G.c o.cl.toNat).rs=true) ∨ (0≤o.cl∧o.cl < G.n∧(G.c o.cl.toNat).rs=false):=by
      cases hr:(G.c o.cl.toNat).rs with
      | true=>exact .inl (.inr (.inr rfl))
      | false =>
        by_cases h1:o.cl < 0
        ·exact .inl (.inl h1)
        ·by_cases h2:(G.n:Int)≤o.cl
         ·exact .inl (.inr (.inl h2))
         ·exact .inr ⟨by omega,by omega,rfl⟩
     have hf:((0≤o.cl)=False) ∨ ((0≤o.cl)=True∧(o.cl < (G.n:Int))=False) ∨ ((0≤o.cl)=True∧(o.cl < (G.n:Int))=True∧(o.cl.toNat < G.n)=True):=by
      by_cases h1:0≤o.cl
      ·by_cases h2:o.cl < (G.n:Int)
       ·exact .inr (.inr ⟨eq_true h1,eq_true h2,eq_true Aa⟩)
       ·exact .inr (.inl ⟨eq_true h1,eq_false h2⟩)
      ·exact .inl (eq_false h1)
     have hR3:=DE ok.g.p.g G hG.w hG.b o.cl t
     have k1:o.kd.tmod 3=1 ∨ o.kd.tmod 3=2 ∨ (o.kd.tmod 3=1)=False∧(o.kd.tmod 3=2)=False:=by
      by_cases h1:o.kd.tmod 3=1
      ·exact .inl h1
      ·by_cases h2:o.kd.tmod 3=2
       ·exact .inr (.inl h2)
       ·exact .inr (.inr ⟨eq_false h1,eq_false h2⟩)
     have hR1:(∀ e,G.mE o.cl o.df (EI 8 C o.vl) o.pl o.off t=some e→Ag M 110 [.ptr 0 [],.int .i64 o.cl,.bool o.df,dg (EI 8 C o.vl),.int .i64 o.pl,W o.off,W t] G.H 4 (Q3 (Ah (.int .i64 0) (.ifc 145 (.ptr 4 []))) (G.H ++ [(4,Bt o.cl e)]) 5))∧(G.mE o.cl o.df (EI 8 C o.vl) o.pl o.off t=none→Ag M 110 [.ptr 0 [],.int .i64 o.cl,.bool o.df,dg (EI 8 C o.vl),.int .i64 o.pl,W o.off,W t] G.H 4 (Q3 (Ah (.int .i64 (G.n:Int)) .nili) ((G.mT o.cl o.df (EI 8 C o.vl) o.pl o.off t).H2) 6)) :=
      ⟨fun e he=>HG ok.g.p.g G hG.w o.cl o.df (EI 8 C o.vl) o.pl o.off t e he,fun he=>HF ok.g.p.g G hG.w o.cl o.df (EI 8 C o.vl) o.pl o.off t he⟩
     have hR2:=JK ok.g.p.g G hG.w (vf (m8 o.vl)) (R (m8 o.vl)) (h (m8 o.vl)) (L (m8 o.vl)) (P (m8 o.vl)) (hV (m8 o.vl)) o.cl o.df o.pl t
     have h8:=E7 o.vl
     have j0:(0≤(m8 o.vl:Int))=True:=eq_true Aa
     have j1:((m8 o.vl:Int) < 8)=True:=eq_true Aa
     have hv1:=hVl (.lst 116 8 fun i=>BI (R i) (h i) (L i) (P i)) ⟨_,rfl⟩ o.vl
     simp only [CY,BI,Hd.v,AM] at hv1 hR2
     rcases k1 with k1 | k1 | k1
     ·have hbad:(o.cl < 0 ∨ (G.n:Int)≤o.cl ∨ (G.c o.cl.toNat).rs=true)→∃ e,G.mE o.cl o.df (EI 8 C o.vl) o.pl o.off t=some e:=fun h=>by
       cases hE:G.mE o.cl o.df (EI 8 C o.vl) o.pl o.off t with
       | some e=>exact ⟨e,rfl⟩
       | none =>
         obtain ⟨p,hp,hpn,hr,-⟩:=Gs.mE_in hE
         rw [hp,Int.toNat_natCast,hr] at h
         rcases h with h | h | h
         ·omega
         ·omega
         ·cases h
      cases hE:G.mE o.cl o.df (EI 8 C o.vl) o.pl o.off t with
      | none =>
        obtain ⟨d0,d1,d2⟩:=hv.resolve_left fun h=>by obtain ⟨e,h⟩:=hbad h;rw [hE] at h;cases h
        have hR:=hR1.2 hE
        have d0:=eq_true d0
        have d1:=eq_true d1
        generalize G.mT o.cl o.df (EI 8 C o.vl) o.pl o.off t=X at *
        simp only [Gs.H,Gs.H2,Ai,Al,Ac] at hR
        (simp only [w0,d0,d1,d2,k1,j0,j1,CB,seval,Gs.H,Ai,Al,Ac,Ap,Aq,A7,A4,Cl.v,CY,BI,Hd.v,CR,Op.v,B3,reduceCtorEq])
        repeat refine sd ?_
        ((have zz:=Bb @dg.eq_1 Fs;refine L9 [] [] (hv1) ?_);(simp only [LZ,seval]));(have zz:=Ho @Ai.eq_1 @Al.eq_1 @Ac.eq_1 @Ap.eq_1 @Aq.eq_1 @A7.eq_1 @A4.eq_1 @Cl.v.eq_1 @dg.eq_1 Fs;refine Xs [0,1,2,3] [0,1,2,3] (hR) ?_)
        (simp only [AH,seval])
        exact Ar.mkZ hx [] ⟨rfl,rfl,rfl⟩
      | some e =>
        have hR:=hR1.1 e hE
        have h4:=ok.g.f.w.as4 o.cl e
        simp only [Gs.H,Ai,Al,Ac,B3] at hR
        rcases hf with f | f | f
        all_goals
         (simp only [w0,f,k1,j0,j1,CB,seval,Gs.H,Ai,Al,Ac,Ap,Aq,A7,A4,Cl.v,CY,BI,Hd.v,CR,Op.v,B3,reduceCtorEq])
         repeat refine sd ?_
         ((have zz:=Bb @dg.eq_1 Fs;refine L9 [] [] (hv1) ?_);(simp only [LZ,seval]));(have zz:=BT @Ai.eq_1 @Al.eq_1 @Ac.eq_1 @Ap.eq_1 @Aq.eq_1 @A7.eq_1 @A4.eq_1 @Cl.v.eq_1 @Bt.eq_1 @dg.eq_1 Fs;refine Xs [0,1,2,3] [0,1,2,3] (hR) ?_)
         (simp only [AH,Bt,Ai,Al,Ac,Ap,Aq,A7,A4,Cl.v,seval])
         have zz:=@Bt.eq_1;refine omY [952,1064] (h4) ?_
         (simp only [Bt,Ai,Al,Ac,Ap,Aq,A7,A4,Cl.v,LZ,seval])
         have zz:=GM @Ai.eq_1 @Al.eq_1 @Ac.eq_1 @Ap.eq_1 @dg.eq_1;refine L9 [0,1,2] [0] (hLn) ?_
         (simp only [Ai,Al,Ac,LZ,seval])
         refine An (σ:=Nat) (fun i=>i≤G.n) (fun i=>fr 199 [(7,.ptr 0 []),(8,.ptr 2 []),(16,.ptr 5 []),(167,.sl 4 [] 0 G.n 42),(168,.int .i64 G.n),(169,.int .i64 i)]) (fun _=>G.H ++ [(4,Ap G.n G.c),(5,.ar 1 8 fun j=>W (G.b j))]) (fun _=>6) (fun i=>G.n - i) 0 Aa ?_ ?_
         ·refine Ao.fr [0,1,2,3,6,7] [] hx AQ Am ?_ ?_
          ·simp only [Int.natCast_zero,LY,seval]
          ·simp only [Gs.H,Ai,Al,Ac,Ap,Cl.v,Aq,A7,A4,dg,B3,LY,seval]
           exact fun j hj=>by rw [if_pos hj]
         ·intro i hi
          refine es 2000 ?_
          by_cases hin:i=G.n
          ·have w0:((i:Int) < (G.n:Int))=False:=eq_false Aa
           (simp only [w0,LZ,seval])
           refine An (σ:=Nat) (fun i=>i≤8) (fun i=>fr 199 [(7,.ptr 0 []),(8,.ptr 2 []),(16,.ptr 4 []),(184,.int .i64 i)]) (fun _=>G.H ++ [(4,.ar 1 8 fun j=>W (G.b j))]) (fun _=>5) (fun i=>8 - i) 0 Aa ?_ ?_
           ·refine Ao.fr [0,1,2,3,5] [] hx AQ Am ?_ ?_
            ·simp only [Int.natCast_zero,LY,seval]
            ·simp only [Gs.H,Ai,Al,Ac,Ap,Cl.v,Aq,A7,A4,dg,B3,LY,seval]
           ·intro q hq
            refine es 2000 ?_
            by_cases hq8:q=8
            ·subst hq8
             have w1:(((8:Nat):Int) < 8)=False:=eq_false Aa
             (simp only [w1,LZ,seval])
             exact Ar.mkZ hx [] ⟨rfl,rfl,rfl⟩
            ·have w1:((q:Int) < 8)=True:=eq_true Aa
             have w2:(0≤(q:Int))=True:=eq_true Aa
             have z1:IntKind.i64.wrap ((q:Int) + 1)=((q + 1:Nat):Int):=AZ
             have hb:=hBl q Aa
             (simp only [w1,Gs.H,Ai,Al,Ac,Ap,Aq,A7,A4,Cl.v,B3,LZ,seval])
             have zz:=@Aq.eq_1;refine Bw [2,3] [2] (hb) ?_
             (simp only [AH,Aq,w1,w2,z1,seval])
             repeat refine sd ?_
             refine ⟨q + 1,by omega,by omega,?_⟩
             refine Ao.fr [0,1,2,3,4] [] hx AQ Am ?_ ?_
             ·simp only [LY,seval]
             ·simp only [Gs.H,Ai,Al,Ac,Ap,Cl.v,Aq,A7,A4,dg,B3,LY,seval]
          ·have w1:((i:Int) < (G.n:Int))=True:=eq_true Aa
           have w2:(0≤(i:Int))=True:=eq_true Aa
           have z1:IntKind.i64.wrap ((i:Int) + 1)=((i + 1:Nat):Int):=AZ
           have hci:=hCl i Aa
           (simp only [w1,w2,Gs.H,Ai,Al,Ac,Ap,Aq,A7,A4,Cl.v,B3,LZ,seval])
           repeat refine sd ?_
           have zz:=Db @Ai.eq_1 @Al.eq_1 @Ac.eq_1 @Ap.eq_1 @Cl.v.eq_1 @dg.eq_1;refine Bw [0,1,2] [0,1] (hci) ?_
           have eP:=O8 (G.c i)
           have eV:=Pb (G.c i)
           simp only [Cl.v,Ac] at eP eV
           (simp only [AH,Ai,Al,Ac,Ap,Cl.v,z1,eP,eV,seval])
           refine ⟨i + 1,by omega,by omega,?_⟩
           refine Ao.fr [0,1,2,3,4,5] [] hx AQ Am ?_ ?_
           ·simp only [LY,seval]
           ·simp only [Gs.H,Ai,Al,Ac,Ap,Cl.v,Aq,A7,A4,dg,B3,LY,seval]
     ·have hbad:(o.cl < 0 ∨ (G.n:Int)≤o.cl ∨ (G.c o.cl.toNat).rs=true)→∃ e,G.tE (vf (m8 o.vl)) o.cl o.df o.pl t=some e:=fun h=>by
       cases hE:G.tE (vf (m8 o.vl)) o.cl o.df o.pl t with
       | some e=>exact ⟨e,rfl⟩
       | none =>
         obtain ⟨p,hp,hpn,hr,-⟩:=Tb hE
         rw [hp,Int.toNat_natCast,hr] at h
         rcases h with h | h | h
         ·omega
         ·omega
         ·cases h
      cases hE:G.tE (vf (m8 o.vl)) o.cl o.df o.pl t with
      | none =>
        obtain ⟨d0,d1,d2⟩:=hv.resolve_left fun h=>by obtain ⟨e,h⟩:=hbad h;rw [hE] at h;cases h
        have hR:=hR2.2 hE
        have d0:=eq_true d0
        have d1:=eq_true d1
        generalize G.tT o.cl o.pl=X at *
        simp only [Gs.H,Gs.H2,Ai,Al,Ac] at hR
        (simp only [w0,d0,d1,d2,k1,j0,j1,CB,seval,Gs.H,Ai,Al,Ac,Ap,Aq,A7,A4,Cl.v,CY,BI,Hd.v,CR,Op.v,B3,reduceCtorEq])
        repeat refine sd ?_
        have zz:=Ho @Ai.eq_1 @Al.eq_1 @Ac.eq_1 @Ap.eq_1 @Aq.eq_1 @A7.eq_1 @A4.eq_1 @Cl.v.eq_1 @dg.eq_1 Fs;refine Xs [0,1,2,3] [0,1,2,3] (hR) ?_
        (simp only [AH,seval])
        exact Ar.mkZ hx [] ⟨rfl,rfl,rfl⟩
      | some e =>
        have hR:=hR2.1 e hE
        have h4:=ok.g.f.w.as4 o.cl e
        simp only [Gs.H,Ai,Al,Ac,B3] at hR
        rcases hf with f | f | f
        all_goals
         (simp only [w0,f,k1,j0,j1,CB,seval,Gs.H,Ai,Al,Ac,Ap,Aq,A7,A4,Cl.v,CY,BI,Hd.v,CR,Op.v,B3,reduceCtorEq])
         repeat refine sd ?_
         have zz:=BT @Ai.eq_1 @Al.eq_1 @Ac.eq_1 @Ap.eq_1 @Aq.eq_1 @A7.eq_1 @A4.eq_1 @Cl.v.eq_1 @Bt.eq_1 @dg.eq_1 Fs;refine Xs [0,1,2,3] [0,1,2,3] (hR) ?_
         (simp only [AH,Bt,Ai,Al,Ac,Ap,Aq,A7,A4,Cl.v,seval])
         have zz:=@Bt.eq_1;refine omY [1032,1096] (h4) ?_
         (simp only [Bt,Ai,Al,Ac,Ap,Aq,A7,A4,Cl.v,LZ,seval])
         have zz:=GM @Ai.eq_1 @Al.eq_1 @Ac.eq_1 @Ap.eq_1 @dg.eq_1;refine L9 [0,1,2] [0] (hLn) ?_
         (simp only [Ai,Al,Ac,LZ,seval])
         refine An (σ:=Nat) (fun i=>i≤G.n) (fun i=>fr 199 [(7,.ptr 0 []),(8,.ptr 2 []),(16,.ptr 5 []),(167,.sl 4 [] 0 G.n 42),(168,.int .i64 G.n),(169,.int .i64 i)]) (fun _=>G.H ++ [(4,Ap G.n G.c),(5,.ar 1 8 fun j=>W (G.b j))]) (fun _=>6) (fun i=>G.n - i) 0 Aa ?_ ?_
         ·refine Ao.fr [0,1,2,3,6,7] [] hx AQ Am ?_ ?_
          ·simp only [Int.natCast_zero,LY,seval]
          ·simp only [Gs.H,Ai,Al,Ac,Ap,Cl.v,Aq,A7,A4,dg,B3,LY,seval]
           exact fun j hj=>by rw [if_pos hj]
         ·intro i hi
          refine es 2000 ?_
          by_cases hin:i=G.n
          ·have w0:((i:Int) < (G.n:Int))=False:=eq_false Aa
           (simp only [w0,LZ,seval])
           refine An (σ:=Nat) (fun i=>i≤8) (fun i=>fr 199 [(7,.ptr 0 []),(8,.ptr 2 []),(16,.ptr 4 []),(184,.int .i64 i)]) (fun _=>G.H ++ [(4,.ar 1 8 fun j=>W (G.b j))]) (fun _=>5) (fun i=>8 - i) 0 Aa ?_ ?_
           ·refine Ao.fr [0,1,2,3,5] [] hx AQ Am ?_ ?_
            ·simp only [Int.natCast_zero,LY,seval]
            ·simp only [Gs.H,Ai,Al,Ac,Ap,Cl.v,Aq,A7,A4,dg,B3,LY,seval]
           ·intro q hq
            refine es 2000 ?_
            by_cases hq8:q=8
            ·subst hq8
             have w1:(((8:Nat):Int) < 8)=False:=eq_false Aa
             (simp only [w1,LZ,seval])
             exact Ar.mkZ hx [] ⟨rfl,rfl,rfl⟩
            ·have w1:((q:Int) < 8)=True:=eq_true Aa
             have w2:(0≤(q:Int))=True:=eq_true Aa
             have z1:IntKind.i64.wrap ((q:Int) + 1)=((q + 1:Nat):Int):=AZ
             have hb:=hBl q Aa
             (simp only [w1,Gs.H,Ai,Al,Ac,Ap,Aq,A7,A4,Cl.v,B3,LZ,seval])
             have zz:=@Aq.eq_1;refine Bw [2,3] [2] (hb) ?_
             (simp only [AH,Aq,w1,w2,z1,seval])
             repeat refine sd ?_
             refine ⟨q + 1,by omega,by omega,?_⟩
             refine Ao.fr [0,1,2,3,4] [] hx AQ Am ?_ ?_
             ·simp only [LY,seval]
             ·simp only [Gs.H,Ai,Al,Ac,Ap,Cl.v,Aq,A7,A4,dg,B3,LY,seval]
          ·have w1:((i:Int) < (G.n:Int))=True:=eq_true Aa
           have w2:(0≤(i:Int))=True:=eq_true Aa
           have z1:IntKind.i64.wrap ((i:Int) + 1)=((i + 1:Nat):Int):=AZ
           have hci:=hCl i Aa
           (simp only [w1,w2,Gs.H,Ai,Al,Ac,Ap,Aq,A7,A4,Cl.v,B3,LZ,seval])
           repeat refine sd ?_
           have zz:=Db @Ai.eq_1 @Al.eq_1 @Ac.eq_1 @Ap.eq_1 @Cl.v.eq_1 @dg.eq_1;refine Bw [0,1,2] [0,1] (hci) ?_
           have eP:=O8 (G.c i)
           have eV:=Pb (G.c i)
           simp only [Cl.v,Ac] at eP eV
           (simp only [AH,Ai,Al,Ac,Ap,Cl.v,z1,eP,eV,seval])
           refine ⟨i + 1,by omega,by omega,?_⟩
           refine Ao.fr [0,1,2,3,4,5] [] hx AQ Am ?_ ?_
           ·simp only [LY,seval]
           ·simp only [Gs.H,Ai,Al,Ac,Ap,Cl.v,Aq,A7,A4,dg,B3,LY,seval]
     ·have hbad:(o.cl < 0 ∨ (G.n:Int)≤o.cl ∨ (G.c o.cl.toNat).rs=true)→∃ e,G.rE o.cl t=some e:=fun h=>by
       cases hE:G.rE o.cl t with
       | some e=>exact ⟨e,rfl⟩
       | none =>
         obtain ⟨p,hp,hpn,hr,-⟩:=Rg hE
         rw [hp,Int.toNat_natCast,hr] at h
         rcases h with h | h | h
         ·omega
         ·omega
         ·cases h
      cases hE:G.rE o.cl t with
      | none =>
        obtain ⟨d0,d1,d2⟩:=hv.resolve_left fun h=>by obtain ⟨e,h⟩:=hbad h;rw [hE] at h;cases h
        have hR:=hR3.2 hE
        have d0:=eq_true d0
        have d1:=eq_true d1
        generalize G.rsv o.cl.toNat=X at *
        simp only [Gs.H,Gs.H2,Ai,Al,Ac] at hR
        (simp only [w0,d0,d1,d2,k1,j0,j1,CB,seval,Gs.H,Ai,Al,Ac,Ap,Aq,A7,A4,Cl.v,CY,BI,Hd.v,CR,Op.v,B3,reduceCtorEq])
        repeat refine sd ?_
        have zz:=Ho @Ai.eq_1 @Al.eq_1 @Ac.eq_1 @Ap.eq_1 @Aq.eq_1 @A7.eq_1 @A4.eq_1 @Cl.v.eq_1 @dg.eq_1 Fs;refine Om [0,1,2,3] [0,1,2,3] (hR) ?_
        (simp only [AH,seval])
        exact Ar.mkZ hx [] ⟨rfl,rfl,rfl⟩
      | some e =>
        have hR:=hR3.1 e hE
        have h4:=ok.g.f.w.as4 o.cl e
        simp only [Gs.H,Ai,Al,Ac,B3] at hR
        rcases hf with f | f | f
        all_goals
         (simp only [w0,f,k1,j0,j1,CB,seval,Gs.H,Ai,Al,Ac,Ap,Aq,A7,A4,Cl.v,CY,BI,Hd.v,CR,Op.v,B3,reduceCtorEq])
         repeat refine sd ?_
         have zz:=BT @Ai.eq_1 @Al.eq_1 @Ac.eq_1 @Ap.eq_1 @Aq.eq_1 @A7.eq_1 @A4.eq_1 @Cl.v.eq_1 @Bt.eq_1 @dg.eq_1 Fs;refine Om [0,1,2,3] [0,1,2,3] (hR) ?_
         (simp only [AH,Bt,Ai,Al,Ac,Ap,Aq,A7,A4,Cl.v,seval])
         have zz:=@Bt.eq_1;refine omY [520,584] (h4) ?_
         (simp only [Bt,Ai,Al,Ac,Ap,Aq,A7,A4,Cl.v,LZ,seval])
         have zz:=GM @Ai.eq_1 @Al.eq_1 @Ac.eq_1 @Ap.eq_1 @dg.eq_1;refine L9 [0,1,2] [0] (hLn) ?_
         (simp only [Ai,Al,Ac,LZ,seval])
         refine An (σ:=Nat) (fun i=>i≤G.n) (fun i=>fr 199 [(7,.ptr 0 []),(8,.ptr 2 []),(16,.ptr 5 []),(167,.sl 4 [] 0 G.n 42),(168,.int .i64 G.n),(169,.int .i64 i)]) (fun _=>G.H ++ [(4,Ap G.n G.c),(5,.ar 1 8 fun j=>W (G.b j))]) (fun _=>6) (fun i=>G.n - i) 0 Aa ?_ ?_
         ·refine Ao.fr [0,1,2,3,6,7] [] hx AQ Am ?_ ?_
          ·simp only [Int.natCast_zero,LY,seval]
          ·simp only [Gs.H,Ai,Al,Ac,Ap,Cl.v,Aq,A7,A4,dg,B3,LY,seval]
           exact fun j hj=>by rw [if_pos hj]
         ·intro i hi
          refine es 2000 ?_
          by_cases hin:i=G.n
          ·have w0:((i:Int) < (G.n:Int))=False:=eq_false Aa
           (simp only [w0,LZ,seval])
           refine An (σ:=Nat) (fun i=>i≤8) (fun i=>fr 199 [(7,.ptr 0 []),(8,.ptr 2 []),(16,.ptr 4 []),(184,.int .i64 i)]) (fun _=>G.H ++ [(4,.ar 1 8 fun j=>W (G.b j))]) (fun _=>5) (fun i=>8 - i) 0 Aa ?_ ?_
           ·refine Ao.fr [0,1,2,3,5] [] hx AQ Am ?_ ?_
            ·simp only [Int.natCast_zero,LY,seval]
            ·simp only [Gs.H,Ai,Al,Ac,Ap,Cl.v,Aq,A7,A4,dg,B3,LY,seval]
           ·intro q hq
            refine es 2000 ?_
            by_cases hq8:q=8
            ·subst hq8
             have w1:(((8:Nat):Int) < 8)=False:=eq_false Aa
             (simp only [w1,LZ,seval])
             exact Ar.mkZ hx [] ⟨rfl,rfl,rfl⟩
            ·have w1:((q:Int) < 8)=True:=eq_true Aa
             have w2:(0≤(q:Int))=True:=eq_true Aa
             have z1:IntKind.i64.wrap ((q:Int) + 1)=((q + 1:Nat):Int):=AZ
             have hb:=hBl q Aa
             (simp only [w1,Gs.H,Ai,Al,Ac,Ap,Aq,A7,A4,Cl.v,B3,LZ,seval])
             have zz:=@Aq.eq_1;refine Bw [2,3] [2] (hb) ?_
             (simp only [AH,Aq,w1,w2,z1,seval])
             repeat refine sd ?_
             refine ⟨q + 1,by omega,by omega,?_⟩
             refine Ao.fr [0,1,2,3,4] [] hx AQ Am ?_ ?_
             ·simp only [LY,seval]
             ·simp only [Gs.H,Ai,Al,Ac,Ap,Cl.v,Aq,A7,A4,dg,B3,LY,seval]
          ·have w1:((i:Int) < (G.n:Int))=True:=eq_true Aa
           have w2:(0≤(i:Int))=True:=eq_true Aa
           have z1:IntKind.i64.wrap ((i:Int) + 1)=((i + 1:Nat):Int):=AZ
           have hci:=hCl i Aa
           (simp only [w1,w2,Gs.H,Ai,Al,Ac,Ap,Aq,A7,A4,Cl.v,B3,LZ,seval])
           repeat refine sd ?_
           have zz:=Db @Ai.eq_1 @Al.eq_1 @Ac.eq_1 @Ap.eq_1 @Cl.v.eq_1 @dg.eq_1;refine Bw [0,1,2] [0,1] (hci) ?_
           have eP:=O8 (G.c i)
           have eV:=Pb (G.c i)
           simp only [Cl.v,Ac] at eP eV
           (simp only [AH,Ai,Al,Ac,Ap,Cl.v,z1,eP,eV,seval])
           refine ⟨i + 1,by omega,by omega,?_⟩
           refine Ao.fr [0,1,2,3,4,5] [] hx AQ Am ?_ ?_
           ·simp only [LY,seval]
           ·simp only [Gs.H,Ai,Al,Ac,Ap,Cl.v,Aq,A7,A4,dg,B3,LY,seval]
    ·have w0:((i:Int) < 8)=True:=eq_true Aa
     have w1:(0≤(i:Int))=True:=eq_true Aa
     have z1:IntKind.i64.wrap ((i:Int) + 1)=((i + 1:Nat):Int):=AZ
     have hb:=hBl i Aa
     (simp only [w0,Gs.H,Ai,Al,Ac,Ap,Aq,A7,A4,Cl.v,CY,BI,Hd.v,CR,Op.v,B3,seval])
     have zz:=@Aq.eq_1;refine Bw [2,3] [2] (hb) ?_
     (simp only [AH,Aq,w0,w1,z1,seval])
     repeat refine sd ?_
     refine ⟨i + 1,by omega,by omega,?_⟩
     refine Ao.fr [0,1,2,3,4,5,6,7] [] hx AQ Am ?_ ?_
     ·simp only [LY,seval]
     ·simp only [Gs.H,Ai,Al,Ac,Ap,Cl.v,Aq,A7,A4,CY,BI,Hd.v,AM,Op.v,dg,Be,Fz,B3,seval]
      intro j hj
      by_cases hji:j=i
      ·subst hji;rw [if_pos rfl,if_pos (Nat.lt_succ_self _)];simp only [LY,seval]
      ·rw [if_neg hji]
       by_cases h2:j < i
       ·rw [if_pos h2,if_pos Aa];simp only [LY,seval]
       ·rw [if_neg h2,if_neg Aa];simp only [LY,seval]
  ·have w0:((i:Int) < (G.n:Int))=True:=eq_true Aa
   have z1:IntKind.i64.wrap ((i:Int) + 1)=((i + 1:Nat):Int):=AZ
   have hci:=hCl i Aa
   (simp only [w0,Gs.H,Ai,Al,Ac,Ap,Aq,A7,A4,Cl.v,CY,BI,Hd.v,CR,Op.v,B3,seval])
   have zz:=Db @Ai.eq_1 @Al.eq_1 @Ac.eq_1 @Ap.eq_1 @Cl.v.eq_1 @dg.eq_1;refine Bw [0,1,2] [0,1] (hci) ?_
   (simp only [AH,Ai,Al,Ac,Ap,Cl.v,z1,seval])
   repeat refine sd ?_
   refine ⟨i + 1,by omega,by omega,by omega,?_⟩
   refine Ao.fr [0,1,2,3,4,5,247] [] hx AQ Am ?_ ?_
   ·simp only [LY,seval]
   ·simp only [Gs.H,Ai,Al,Ac,Ap,Cl.v,Aq,A7,A4,CY,BI,Hd.v,AM,Op.v,dg,Be,Fz,B3,seval]
    intro j hj
    by_cases hji:j < i
    ·simp only [hji,if_true,LY,seval]
    ·obtain rfl:j=i:=Aa
     simp only [Nat.lt_irrefl,Nat.sub_self,CL,LY,seval]
end Mv
