/- A part. -/
import Derived.Test.YtlfkjfonpacelaaGreatDoorJC
set_option linter.all false
set_option maxRecDepth 20000
set_option maxHeartbeats 4000000
namespace Mv
open Go
variable {M:Seat}
structure OkQ (M:Seat):Prop where
 okA:OkM M
 ok:OkO M
 okP:OkP M
 okN:OkNx M
theorem AA (e:Int):Cn (some e) = .ifc 74 (.int .i64 e):=rfl
theorem BS:Cn none = .nili:=rfl
def Lbs:=(Em @x8 @LY @Gc @BS @AA)
def Kn:=(Cv @Bb @List.nil_append.{0} @BS)
def TK:=(Qe @Hd.stop.eq_1 @x8 @LY @Gc @BS @AA @QI @JB.eq_1)
theorem pfl (pc:BitVec 64) (h:¬ 8192#64≤pc):pc.toNat < 8192:=by rw [BitVec.le_def] at h;simpa using h
theorem IX (ok:OkQ M) (I:MemI M) (g:Nat→BitVec 64) (pc:BitVec 64) (xt:BitVec 64) (s:I.σ) :
 Ae M 241 [Ba g pc true xt,.ifc I.t (.ptr 0 [])] (I.E0 s) I.k0 (Q3 (Ai (Ba g pc true xt) .nili) (I.E0 s) (I.k0 + 1)):=by
 refine Ab ok.okN.k241 rfl fun x hx=>?_;refine AV.up (N':=32) Hw ?_;refine eX ?_;simp only [P8,I.hdel0,seval];exact I.ret0 [_,_] (n:=100) hx Ca ⟨rfl,rfl,rfl⟩ (by (simp only [Gc,seval])) (by (simp only [Gc,seval,LY])) Al
theorem H8 (ok:OkQ M) (I:MemI M) (g:Nat→BitVec 64) (pc:BitVec 64) (xt:BitVec 64) (s:I.σ) (hpc:8192#64≤pc) :
 Ae M 241 [Ba g pc false xt,.ifc I.t (.ptr 0 [])] (I.E0 s) I.k0 (Q3 (Ai (Ba g pc true AD) .nili) (I.E0 s) (I.k0 + 1)):=by
 refine Ab ok.okN.k241 rfl fun x hx=>?_;refine AV.up (N':=32) Hw ?_;refine eX ?_;simp only [P8,I.hdel0,hpc,seval];have zz:=@f8;refine Dh (BJ ok.okN g pc false xt AD) ?_;simp only [Fm,seval];exact I.ret0 [_,_] (n:=100) hx Ca ⟨rfl,rfl,rfl⟩ (by (simp only [Gc,seval])) (by (simp only [Gc,seval,LY])) Al
theorem TA (ok:OkQ M) (I:MemI M) (g:Nat→BitVec 64) (pc:BitVec 64) (xt:BitVec 64) (s:I.σ) (hz:I.Z s) (hpc:¬ 8192#64≤pc) (e:Int) (he:(I.mm.rd s pc).2.1=some e) :
 Ae M 241 [Ba g pc false xt,.ifc I.t (.ptr 0 [])] (I.E0 s) I.k0 (Q3 (Ai (Ba g pc false xt) (Cn (some e))) (I.E (I.mm.rd s pc).2.2 I.k0) (I.k0 + 1)):=by
 refine Ab ok.okN.k241 rfl fun x hx=>?_;refine AV.up (N':=32) Hw ?_;refine eX ?_;simp only [P8,I.hdel0,hpc,seval];refine I.dynR0 [_,_] hz hpc Ca ?_;simp only [he,AA,Bb,List.nil_append,seval];exact I.ret [_,_] (q:=I.k0) ⟨Nat.le_refl _,by have:=I.hk;omega⟩ hx Al Ca ⟨rfl,rfl,rfl⟩ (by (simp only [Gc,seval])) (by (simp only [Gc,AA,seval,LY]))
theorem VF (ok:OkQ M) (I:MemI M) (g:Nat→BitVec 64) (pc:BitVec 64) (xt:BitVec 64) (s:I.σ) (hz:I.Z s) (hpc:¬ 8192#64≤pc) (w:BitVec 64) (hw:(I.mm.rd s pc).1=w) (he:(I.mm.rd s pc).2.1=none) (s1:I.σ) (hs:(I.mm.rd s pc).2.2=s1) (h:¬ (Cj w≤35∧w >>> 32 &&& 255#64=0#64)) :
 Ae M 241 [Ba g pc false xt,.ifc I.t (.ptr 0 [])] (I.E0 s) I.k0 (Q3 (Ai (Ba g pc true AD) (Cn (none))) (I.E (s1) I.k0) (I.k0 + 1)):=by
 refine Ab ok.okN.k241 rfl fun x hx=>?_;refine AV.up (N':=32) Hw ?_;have a1:=At w 52;have a2:=At w 48;have a3:=At w 44;have a4:=At w 40;have hL:I.len s1≤100:=Gq;refine eX ?_;simp only [P8,I.hdel0,hpc,seval];refine I.dynR0 [_,_] hz hpc Ca ?_;rw [hw,he,hs];simp only [Kn,seval];refine Aj (Ix ok.ok.toOkV w h) ?_;simp only [LZ,seval];repeat refine sd ?_
 have zz:=@f8;refine Dh (BJ ok.okN g pc false xt AD) ?_;simp only [Fm,seval];exact I.ret [_,_] (q:=I.k0) ⟨Nat.le_refl _,by have:=I.hk;omega⟩ hx Al Ca ⟨rfl,rfl,rfl⟩ (by (simp only [Gc,seval])) (by (simp only [TK,seval]))
theorem Qi (ok:OkQ M) (I:MemI M) (g:Nat→BitVec 64) (pc:BitVec 64) (xt:BitVec 64) (s:I.σ) (hz:I.Z s) (hpc:¬ 8192#64≤pc) (w:BitVec 64) (hw:(I.mm.rd s pc).1=w) (he:(I.mm.rd s pc).2.1=none) (s1:I.σ) (hs:(I.mm.rd s pc).2.2=s1) (hop:Cj w=0) (h2:w >>> 32 &&& 255#64=0#64) :
 Ae M 241 [Ba g pc false xt,.ifc I.t (.ptr 0 [])] (I.E0 s) I.k0 (Q3 (Ai (Ba g pc true (g (pF w 48))) (Cn (none))) (I.E (s1) I.k0) (I.k0 + 1)):=by
 refine Ab ok.okN.k241 rfl fun x hx=>?_;refine AV.up (N':=32) Hw ?_;have a1:=At w 52;have a2:=At w 48;have a3:=At w 44;have a4:=At w 40;have hL:I.len s1≤100:=Gq;refine eX ?_;simp only [P8,I.hdel0,hpc,seval];refine I.dynR0 [_,_] hz hpc Ca ?_;rw [hw,he,hs];simp only [Kn,seval];have zz:=@j3;refine Dh (AC ok.ok.toOkV w Aa h2) ?_;simp only [HQ,hop,I.idsE,seval];repeat refine sd ?_
 have zz:=@f8;refine Ge (BJ ok.okN g pc false xt (g (pF w 48))) ?_;simp only [Fm,I.idsE,seval];exact I.ret [_,_] (q:=I.k0) ⟨Nat.le_refl _,by have:=I.hk;omega⟩ hx Al Ca ⟨rfl,rfl,rfl⟩ (by (simp only [Gc,seval])) (by (simp only [TK,seval]))
theorem V6 (ok:OkQ M) (I:MemI M) (g:Nat→BitVec 64) (pc:BitVec 64) (xt:BitVec 64) (s:I.σ) (hz:I.Z s) (hpc:¬ 8192#64≤pc) (w:BitVec 64) (hw:(I.mm.rd s pc).1=w) (he:(I.mm.rd s pc).2.1=none) (s1:I.σ) (hs:(I.mm.rd s pc).2.2=s1) (hop:Cj w=26) (h2:w >>> 32 &&& 255#64=0#64) :
 Ae M 241 [Ba g pc false xt,.ifc I.t (.ptr 0 [])] (I.E0 s) I.k0 (Q3 (Ai (Ba (JB g (pF w 52) (BitVec.ofInt 64 (pN w))) (pc + 1#64) false xt) (Cn (none))) (I.E (s1) I.k0) (I.k0 + 1)):=by
 refine Ab ok.okN.k241 rfl fun x hx=>?_;refine AV.up (N':=32) Hw ?_;have a1:=At w 52;have a2:=At w 48;have a3:=At w 44;have a4:=At w 40;have hL:I.len s1≤100:=Gq;refine eX ?_;simp only [P8,I.hdel0,hpc,seval];refine I.dynR0 [_,_] hz hpc Ca ?_;rw [hw,he,hs];simp only [Kn,seval];have zz:=@j3;refine Dh (AC ok.ok.toOkV w Aa h2) ?_;simp only [HQ,hop,I.idsE,seval];repeat refine sd ?_
 exact I.ret [_,_] (q:=I.k0) ⟨Nat.le_refl _,by have:=I.hk;omega⟩ hx Al Ca ⟨rfl,rfl,rfl⟩ (by (simp only [Gc,seval])) (by (simp only [TK,seval]))
theorem OC (ok:OkQ M) (I:MemI M) (g:Nat→BitVec 64) (pc:BitVec 64) (xt:BitVec 64) (s:I.σ) (hz:I.Z s) (hpc:¬ 8192#64≤pc) (w:BitVec 64) (hw:(I.mm.rd s pc).1=w) (he:(I.mm.rd s pc).2.1=none) (s1:I.σ) (hs:(I.mm.rd s pc).2.2=s1) (op:Nat) (h1:1≤op) (h25:op≤25) (hop:Cj w=op) (h2:w >>> 32 &&& 255#64=0#64) :
 Ae M 241 [Ba g pc false xt,.ifc I.t (.ptr 0 [])] (I.E0 s) I.k0 (Q3 (Ai (Ba (JB g (pF w 52) (apW op (g (pF w 48)) (g (pF w 44)) (g (pF w 40)))) (pc + 1#64) false xt) (Cn (none))) (I.E (s1) I.k0) (I.k0 + 1)):=by
 refine Ab ok.okN.k241 rfl fun x hx=>?_;refine AV.up (N':=32) Hw ?_;have a1:=At w 52;have a2:=At w 48;have a3:=At w 44;have a4:=At w 40;have hL:I.len s1≤100:=Gq;have d1:((op:Int)=0)=False:=eq_false Aa;have d2:((op:Int) < 26)=True:=eq_true Aa;refine eX ?_;simp only [P8,I.hdel0,hpc,seval];refine I.dynR0 [_,_] hz hpc Ca ?_;rw [hw,he,hs];simp only [Kn,seval];have zz:=@j3;refine Dh (AC ok.ok.toOkV w Aa h2) ?_;simp only [HQ,hop,d1,d2,I.idsE,seval];repeat refine sd ?_
 refine AO (HJ ok.okP op h1 h25 (g (pF w 48)) (g (pF w 44)) (g (pF w 40))) ?_;simp only [Bb,I.idsE,seval];repeat refine sd ?_
 exact I.ret [_,_] (q:=I.k0) ⟨Nat.le_refl _,by have:=I.hk;omega⟩ hx Al Ca ⟨rfl,rfl,rfl⟩ (by (simp only [Gc,seval])) (by (simp only [TK,seval]))
theorem SZ (ok:OkQ M) (I:MemI M) (g:Nat→BitVec 64) (pc:BitVec 64) (xt:BitVec 64) (s:I.σ) (hz:I.Z s) (hpc:¬ 8192#64≤pc) (w:BitVec 64) (hw:(I.mm.rd s pc).1=w) (he:(I.mm.rd s pc).2.1=none) (s1:I.σ) (hs:(I.mm.rd s pc).2.2=s1) (hop:Cj w=27) (h2:w >>> 32 &&& 255#64=0#64) (a:BitVec 64) (ha:g (pF w 48) + BitVec.ofInt 64 (pN w)=a) (hlt:8192#64≤a) :
 Ae M 241 [Ba g pc false xt,.ifc I.t (.ptr 0 [])] (I.E0 s) I.k0 (Q3 (Ai (Ba g pc true AD) (Cn (none))) (I.E (s1) I.k0) (I.k0 + 1)):=by
 refine Ab ok.okN.k241 rfl fun x hx=>?_;refine AV.up (N':=32) Hw ?_;have a1:=At w 52;have a2:=At w 48;have a3:=At w 44;have a4:=At w 40;have hL:I.len s1≤100:=Gq;refine eX ?_;simp only [P8,I.hdel0,hpc,seval];refine I.dynR0 [_,_] hz hpc Ca ?_;rw [hw,he,hs];simp only [Kn,seval];have zz:=@j3;refine Dh (AC ok.ok.toOkV w Aa h2) ?_;simp only [HQ,hop,ha,hlt,I.idsE,seval];repeat refine sd ?_
 have zz:=@f8;refine Dh (BJ ok.okN g pc false xt AD) ?_;simp only [Fm,seval];exact I.ret [_,_] (q:=I.k0) ⟨Nat.le_refl _,by have:=I.hk;omega⟩ hx Al Ca ⟨rfl,rfl,rfl⟩ (by (simp only [Gc,seval])) (by (simp only [TK,seval]))
theorem Tj (ok:OkQ M) (I:MemI M) (g:Nat→BitVec 64) (pc:BitVec 64) (xt:BitVec 64) (s:I.σ) (hz:I.Z s) (hpc:¬ 8192#64≤pc) (w:BitVec 64) (hw:(I.mm.rd s pc).1=w) (he:(I.mm.rd s pc).2.1=none) (s1:I.σ) (hs:(I.mm.rd s pc).2.2=s1) (hop:Cj w=28) (h2:w >>> 32 &&& 255#64=0#64) (a:BitVec 64) (ha:g (pF w 48) + BitVec.ofInt 64 (pN w)=a) (hlt:8192#64≤a) :
 Ae M 241 [Ba g pc false xt,.ifc I.t (.ptr 0 [])] (I.E0 s) I.k0 (Q3 (Ai (Ba g pc true AD) (Cn (none))) (I.E (s1) I.k0) (I.k0 + 1)):=by
 refine Ab ok.okN.k241 rfl fun x hx=>?_;refine AV.up (N':=32) Hw ?_;have a1:=At w 52;have a2:=At w 48;have a3:=At w 44;have a4:=At w 40;have hL:I.len s1≤100:=Gq;refine eX ?_;simp only [P8,I.hdel0,hpc,seval];refine I.dynR0 [_,_] hz hpc Ca ?_;rw [hw,he,hs];simp only [Kn,seval];have zz:=@j3;refine Dh (AC ok.ok.toOkV w Aa h2) ?_;simp only [HQ,hop,ha,hlt,I.idsE,seval];repeat refine sd ?_
 have zz:=@f8;refine Dh (BJ ok.okN g pc false xt AD) ?_;simp only [Fm,seval];exact I.ret [_,_] (q:=I.k0) ⟨Nat.le_refl _,by have:=I.hk;omega⟩ hx Al Ca ⟨rfl,rfl,rfl⟩ (by (simp only [Gc,seval])) (by (simp only [TK,seval]))
theorem WR (ok:OkQ M) (I:MemI M) (g:Nat→BitVec 64) (pc:BitVec 64) (xt:BitVec 64) (s:I.σ) (hz:I.Z s) (hpc:¬ 8192#64≤pc) (w:BitVec 64) (hw:(I.mm.rd s pc).1=w) (he:(I.mm.rd s pc).2.1=none) (s1:I.σ) (hs:(I.mm.rd s pc).2.2=s1) (hop:Cj w=27) (h2:w >>> 32 &&& 255#64=0#64) (a:BitVec 64) (ha:g (pF w 48) + BitVec.ofInt 64 (pN w)=a) (hlt:¬ 8192#64≤a) (he2:(I.mm.rd s1 a).2.1=none) :
 Ae M 241 [Ba g pc false xt,.ifc I.t (.ptr 0 [])] (I.E0 s) I.k0 (Q3 (Ai (Ba (JB g (pF w 52) (I.mm.rd s1 a).1) (pc + 1#64) false xt) (Cn (none))) (I.E ((I.mm.rd s1 a).2.2) I.k0) (I.k0 + 1)):=by
 refine Ab ok.okN.k241 rfl fun x hx=>?_;refine AV.up (N':=32) Hw ?_;have a1:=At w 52;have a2:=At w 48;have a3:=At w 44;have a4:=At w 40;have hL:I.len s1≤100:=Gq;refine eX ?_;simp only [P8,I.hdel0,hpc,seval];refine I.dynR0 [_,_] hz hpc Ca ?_;rw [hw,he,hs];simp only [Kn,seval];have zz:=@j3;refine Dh (AC ok.ok.toOkV w Aa h2) ?_;simp only [HQ,hop,ha,hlt,I.idsE,seval];repeat refine sd ?_
 refine I.opyR [_,_] hL hlt Al Ca ?_;simp only [he2,Kn,AA,I.idsE,seval];repeat refine sd ?_
 exact I.ret [_,_] (q:=I.k0) ⟨Nat.le_refl _,by have:=I.hk;omega⟩ hx Al Ca ⟨rfl,rfl,rfl⟩ (by (simp only [Gc,seval])) (by (simp only [TK,seval]))
theorem Sp (ok:OkQ M) (I:MemI M) (g:Nat→BitVec 64) (pc:BitVec 64) (xt:BitVec 64) (s:I.σ) (hz:I.Z s) (hpc:¬ 8192#64≤pc) (w:BitVec 64) (hw:(I.mm.rd s pc).1=w) (he:(I.mm.rd s pc).2.1=none) (s1:I.σ) (hs:(I.mm.rd s pc).2.2=s1) (hop:Cj w=27) (h2:w >>> 32 &&& 255#64=0#64) (a:BitVec 64) (ha:g (pF w 48) + BitVec.ofInt 64 (pN w)=a) (hlt:¬ 8192#64≤a) (e:Int) (he2:(I.mm.rd s1 a).2.1=some e) :
 Ae M 241 [Ba g pc false xt,.ifc I.t (.ptr 0 [])] (I.E0 s) I.k0 (Q3 (Ai (Ba (JB g (pF w 52) (I.mm.rd s1 a).1) (pc + 1#64) false xt) (Cn (some e))) (I.E ((I.mm.rd s1 a).2.2) I.k0) (I.k0 + 1)):=by
 refine Ab ok.okN.k241 rfl fun x hx=>?_;refine AV.up (N':=32) Hw ?_;have a1:=At w 52;have a2:=At w 48;have a3:=At w 44;have a4:=At w 40;have hL:I.len s1≤100:=Gq;refine eX ?_;simp only [P8,I.hdel0,hpc,seval];refine I.dynR0 [_,_] hz hpc Ca ?_;rw [hw,he,hs];simp only [Kn,seval];have zz:=@j3;refine Dh (AC ok.ok.toOkV w Aa h2) ?_;simp only [HQ,hop,ha,hlt,I.idsE,seval];repeat refine sd ?_
 refine I.opyR [_,_] hL hlt Al Ca ?_;simp only [he2,Kn,AA,I.idsE,seval];repeat refine sd ?_
 exact I.ret [_,_] (q:=I.k0) ⟨Nat.le_refl _,by have:=I.hk;omega⟩ hx Al Ca ⟨rfl,rfl,rfl⟩ (by (simp only [Gc,seval])) (by (simp only [TK,seval]))
theorem WC (ok:OkQ M) (I:MemI M) (g:Nat→BitVec 64) (pc:BitVec 64) (xt:BitVec 64) (s:I.σ) (hz:I.Z s) (hpc:¬ 8192#64≤pc) (w:BitVec 64) (hw:(I.mm.rd s pc).1=w) (he:(I.mm.rd s pc).2.1=none) (s1:I.σ) (hs:(I.mm.rd s pc).2.2=s1) (hop:Cj w=28) (h2:w >>> 32 &&& 255#64=0#64) (a:BitVec 64) (ha:g (pF w 48) + BitVec.ofInt 64 (pN w)=a) (hlt:¬ 8192#64≤a) (he2:(I.mm.wr s1 a (g (pF w 44))).1=none) :
 Ae M 241 [Ba g pc false xt,.ifc I.t (.ptr 0 [])] (I.E0 s) I.k0 (Q3 (Ai (Ba g (pc + 1#64) false xt) (Cn (none))) (I.E ((I.mm.wr s1 a (g (pF w 44))).2) I.k0) (I.k0 + 1)):=by
 refine Ab ok.okN.k241 rfl fun x hx=>?_;refine AV.up (N':=32) Hw ?_;have a1:=At w 52;have a2:=At w 48;have a3:=At w 44;have a4:=At w 40;have hL:I.len s1≤100:=Gq;refine eX ?_;simp only [P8,I.hdel0,hpc,seval];refine I.dynR0 [_,_] hz hpc Ca ?_;rw [hw,he,hs];simp only [Kn,seval];have zz:=@j3;refine Dh (AC ok.ok.toOkV w Aa h2) ?_;simp only [HQ,hop,ha,hlt,I.nil_in,I.idsE,seval];repeat refine sd ?_
 refine I.opyW [_,_] hL hlt Al Ca ?_;simp only [he2,Kn,AA,I.idsE,seval];repeat refine sd ?_
 exact I.ret [_,_] (q:=I.k0) ⟨Nat.le_refl _,by have:=I.hk;omega⟩ hx Al Ca ⟨rfl,rfl,rfl⟩ (by (simp only [Gc,seval])) (by (simp only [TK,seval]))
theorem Ud (ok:OkQ M) (I:MemI M) (g:Nat→BitVec 64) (pc:BitVec 64) (xt:BitVec 64) (s:I.σ) (hz:I.Z s) (hpc:¬ 8192#64≤pc) (w:BitVec 64) (hw:(I.mm.rd s pc).1=w) (he:(I.mm.rd s pc).2.1=none) (s1:I.σ) (hs:(I.mm.rd s pc).2.2=s1) (hop:Cj w=28) (h2:w >>> 32 &&& 255#64=0#64) (a:BitVec 64) (ha:g (pF w 48) + BitVec.ofInt 64 (pN w)=a) (hlt:¬ 8192#64≤a) (e:Int) (he2:(I.mm.wr s1 a (g (pF w 44))).1=some e) :
 Ae M 241 [Ba g pc false xt,.ifc I.t (.ptr 0 [])] (I.E0 s) I.k0 (Q3 (Ai (Ba g (pc + 1#64) false xt) (Cn (some e))) (I.E ((I.mm.wr s1 a (g (pF w 44))).2) I.k0) (I.k0 + 1)):=by
 refine Ab ok.okN.k241 rfl fun x hx=>?_;refine AV.up (N':=32) Hw ?_;have a1:=At w 52;have a2:=At w 48;have a3:=At w 44;have a4:=At w 40;have hL:I.len s1≤100:=Gq;refine eX ?_;simp only [P8,I.hdel0,hpc,seval];refine I.dynR0 [_,_] hz hpc Ca ?_;rw [hw,he,hs];simp only [Kn,seval];have zz:=@j3;refine Dh (AC ok.ok.toOkV w Aa h2) ?_;simp only [HQ,hop,ha,hlt,I.nil_in,I.idsE,seval];repeat refine sd ?_
 refine I.opyW [_,_] hL hlt Al Ca ?_;simp only [he2,Kn,AA,I.idsE,seval];repeat refine sd ?_
 exact I.ret [_,_] (q:=I.k0) ⟨Nat.le_refl _,by have:=I.hk;omega⟩ hx Al Ca ⟨rfl,rfl,rfl⟩ (by (simp only [Gc,seval])) (by (simp only [TK,seval]))
theorem R2 (ok:OkQ M) (I:MemI M) (g:Nat→BitVec 64) (pc:BitVec 64) (xt:BitVec 64) (s:I.σ) (hz:I.Z s) (hpc:¬ 8192#64≤pc) (w:BitVec 64) (hw:(I.mm.rd s pc).1=w) (he:(I.mm.rd s pc).2.1=none) (s1:I.σ) (hs:(I.mm.rd s pc).2.2=s1) (op:Nat) (ho:op=29 ∨ op=30 ∨ op=31 ∨ op=32 ∨ op=33) (hop:Cj w=op) (h2:w >>> 32 &&& 255#64=0#64) :
 Ae M 241 [Ba g pc false xt,.ifc I.t (.ptr 0 [])] (I.E0 s) I.k0 (Q3 (Ai ((ME op ⟨g,pc,false,xt⟩ (pF w 52) (pF w 48) (BitVec.ofInt 64 (pN w))).v) (Cn (none))) (I.E (s1) I.k0) (I.k0 + 1)):=by
 refine Ab ok.okN.k241 rfl fun x hx=>?_;refine AV.up (N':=32) Hw ?_;have a1:=At w 52;have a2:=At w 48;have a3:=At w 44;have a4:=At w 40;have hL:I.len s1≤100:=Gq;have d1:((op:Int)=0)=False:=eq_false Aa;have d2:((op:Int) < 26)=False:=eq_false Aa;have d3:((op:Int)=26)=False:=eq_false Aa;have d4:((op:Int)=27)=False:=eq_false Aa;have d5:((op:Int)=28)=False:=eq_false Aa;have d6:((op:Int) < 34)=True:=eq_true Aa;refine eX ?_;simp only [P8,I.hdel0,hpc,seval];refine I.dynR0 [_,_] hz hpc Ca ?_;rw [hw,he,hs];simp only [Kn,seval];have zz:=@j3;refine Dh (AC ok.ok.toOkV w Aa h2) ?_;simp only [HQ,hop,d1,d2,d3,d4,d5,d6,I.idsE,seval];repeat refine sd ?_
 have hJ:=QG ok.okN op ho g pc false xt (pF w 52) (pF w 48) a1 a2 (BitVec.ofInt 64 (pN w));generalize ME op ⟨g,pc,false,xt⟩ (pF w 52) (pF w 48) (BitVec.ofInt 64 (pN w))=j at *
 unfold Hd.v at hJ;have zz:=@f8;refine Dh (hJ) ?_;simp only [Fm,seval];exact I.ret [_,_] (q:=I.k0) ⟨Nat.le_refl _,by have:=I.hk;omega⟩ hx Al Ca ⟨rfl,rfl,rfl⟩ (by (simp only [Gc,seval])) (by (simp only [TK,seval]))
variable {M:Seat}
theorem E1 (i:Nat) (hi:i < 18446744073709551616):(BitVec.ofNat 64 i).toNat=i:=Sq
theorem Mj (i:Nat):BitVec.ofNat 64 i + 1#64=BitVec.ofNat 64 (i + 1):=by apply BitVec.eq_of_toNat_eq;rw [BitVec.toNat_add,BitVec.toNat_ofNat,BitVec.toNat_ofNat,BitVec.toNat_ofNat];omega
theorem SD (i n:Nat) (hi:i < 18446744073709551616) (hn:n < 18446744073709551616):(BitVec.ofNat 64 i < BitVec.ofNat 64 n)=(i < n):=by rw [BitVec.lt_def,E1 i hi,E1 n hn]
theorem K6 (b:BitVec 64) (i:Nat) (h:b.toNat + i < 8192):¬ 8192#64≤b + BitVec.ofNat 64 i:=by
 rw [BitVec.le_def,BitVec.toNat_add,E1 i Aa];show ¬ 8192≤_;omega
def Atj:LC:=(.seq (sr [mt 79 13,
 mU 80 0] (.block 2 (.loop (sr [ak 81 .lss 80 79] (.seq (DJ 81 2) (.seq (.block 3 (sr [mt 82 80,mt 22 82] (.seq (.regd [⟨4,0,mt 87 18⟩,⟨5,0,mt 88 22⟩,⟨6,2,aV 89 .mul 8 88⟩,⟨7,7,A1 90 (.slsl 1 (.t 87) (some (.t 89)) none)⟩,⟨8,15,kl 91 308 [(.t 90)]⟩,⟨0,0,mt 83 1⟩,⟨1,0,mt 84 4⟩,⟨2,0,mt 85 22⟩,⟨3,192,ak 86 .add 84 85⟩,⟨9,32,A1 92 (.mkmth 1 (.t 83))⟩,⟨10,544,A1 93 (.nilm 1 [422,426] (.t 92))⟩,⟨11,1568,mt 94 83⟩,⟨12,4095,⟨(some 95),.dyn (.c (.fcons 1 .junk .fnil)) [(.t 94),(.t 86),(.t 91)],none⟩⟩,⟨13,8191,mt 23 95⟩]) (sr [mt 96 23,A1 97 (.eq true true (.iface [74]) (.t 96) (.c .nili))] (.cond (.t 97) (sr [la 98 19 5,mt 99 23,sb 19 10 98,mt 11 99] .ret) .skip))))) (.reg [aU 100 .add 80 1,mt 80 100]))))))) (sr [fa 101 16 5,lb 102 1 101,
  aU 103 .add 102 1,fa 104 16 5,sb 1 104 103] (sr [la 105 19 5,sb 19 10 105,mn 11] .ret)))
theorem RO (ok:OkQ M) (I:MemI M) (g:Nat→BitVec 64) (pc:BitVec 64) (xt:BitVec 64) (b:BitVec 64) (t:Nat) (ht:t≤8) (hb:b.toNat + t≤8192) (p:Nat→BitVec 8) (s0:I.σ) (hL0:I.len s0≤50) (x:Ctx) (hx:x.k=I.kk) :
 AV M x (Ap M x [.cell 10 true 19,.tmp 11] (Q3 (Ai (MI I.mm ⟨g,pc,false,xt⟩ s0 b t p).1.v (Cn (MI I.mm ⟨g,pc,false,xt⟩ s0 b t p).2.1)) (I.E (MI I.mm ⟨g,pc,false,xt⟩ s0 b t p).2.2 I.kk) (I.kk + 1))) [.code Atj] 21
  (fr 106 [(1,.ifc I.t (.ptr 0 [])),(4,W b),(5,.ptr 17 []),(10,.ptr 18 []),(11,.nili),(13,W (BitVec.ofNat 64 t)),(18,.sl 19 [] 0 (8 * t) 1)])
  ((17,Ba g pc false xt) :: (18,Ba (fun _=>0#64) 0#64 false 0#64) :: (19,.ar 1 (8 * t) fun j=>B (p j)) :: I.E s0 20):=by
 have hk:=I.hk;refine eX ?_;simp only [Atj,LZ,seval];refine Am (σ:=Nat × I.σ) (fun q=>q.1≤t∧I.len q.2≤50 + q.1∧wrA I.mm b (wsB p) (t - q.1) q.1 q.2=wrA I.mm b (wsB p) t 0 s0) (fun q=>fr 106 [(1,.ifc I.t (.ptr 0 [])),(4,W b),(5,.ptr 17 []),(10,.ptr 18 []),(11,.nili),(18,.sl 19 [] 0 (8 * t) 1),(79,W (BitVec.ofNat 64 t)),(80,W (BitVec.ofNat 64 q.1))])
  (fun q=>(17,Ba g pc false xt) :: (18,Ba (fun _=>0#64) 0#64 false 0#64) :: (19,.ar 1 (8 * t) fun j=>B (p j)) :: I.E q.2 20) (fun _=>21) (fun q=>t - q.1) (0,s0) ⟨Nat.zero_le _,hL0,rfl⟩ ?_ ?_
 ·refine Ak.frK [0,1,2,3,4,5,6,7,8,9,10,11,12,13,14,15,16,17,18,19,20] Aa AG Al ?_ ?_
  ·simp only [LY,seval]
  ·simp only [Lc9,seval];exact I.sm [_,_,_] (n:=10000) Ca Ca Ca
 ·rintro ⟨i,s⟩ ⟨hi,hLi,hw⟩;dsimp only at hi hw hLi ⊢;have hL:I.len s≤100:=Aa;refine eX ?_;have e1:=SD i t Aa Aa;by_cases h4:i=t
  ·subst h4;rw [Nat.sub_self,wrA] at hw;simp only [MI,← hw];have d0:=eq_false (Nat.lt_irrefl i);simp only [e1,d0,Fm,seval];exact I.ret [_,_,_] (q:=I.kk) ⟨by omega,by omega⟩ hx Al Ca ⟨rfl,rfl,rfl⟩ (by (simp only [Gc,seval])) (by (simp only [Lbs,seval]))
  ·have hit:i < t:=Nat.lt_of_le_of_ne hi h4;have t1:=E1 i Aa;have t2:(8#64 * BitVec.ofNat 64 i).toNat=8 * i:=Tq;have t4:=Mj i;have hlt:=K6 b i Aa;have d0:=eq_true hit;rw [show t - i=(t - (i + 1)) + 1 by omega,wrA] at hw;simp only [e1,d0,t2,t4,Fm,seval];repeat refine sd ?_
   refine opK (DQ ok.ok (8 * t - 8 * i) Aa (fun j=>p (8 * i + j))) (by (try simp only [dg,BI,seval]) <;> first | exact q1 | ((show 8 * i + (8 * t - 8 * i)≤8 * t;omega))) (by simp only [dg,Cg,LX]) ?_;have hw2:J9 (fun j=>p (8 * i + j)) 8=wsB p i:=rfl;simp only [t2,t4,hw2,I.nil_in,I.idsE,LZ,seval];cases he:(I.mm.wr s (b + BitVec.ofNat 64 i) (wsB p i)).1 with
   | some e =>
     rw [he] at hw;simp only [MI,← hw];refine I.opyW [_,_,_] hL hlt Al Ca ?_;simp only [he,AA,List.nil_append,I.idsE,Fm,seval];exact I.ret [_,_,_] (q:=I.kk) ⟨by omega,by omega⟩ hx Al Ca ⟨rfl,rfl,rfl⟩ (by (simp only [Gc,seval])) (by (simp only [Lbs,seval]))
   | none =>
     rw [he] at hw;refine I.opyW [_,_,_] hL hlt Al Ca ?_;simp only [he,BS,List.nil_append,I.idsE,t4,LZ,seval];refine ⟨(i + 1,(I.mm.wr s (b + BitVec.ofNat 64 i) (wsB p i)).2),by omega,(by have:=I.lw s (b + BitVec.ofNat 64 i) (wsB p i);show I.len (I.mm.wr s (b + BitVec.ofNat 64 i) (wsB p i)).2≤50 + (i + 1);omega),hw,by omega,?_⟩;refine Ak.frK [0,1,2,3,4,5,6,7,8,9,10,11,12,13,14,15,16,17,18,19,485] Aa AG Al ?_ ?_
     ·simp only [LY,seval]
     ·simp only [Lc9,seval];exact I.sm [_,_,_] (n:=10000) Ca Ca Ca
def Ahu:LC:=(sr [A1 18 (.mv (.c .nils))] (.seq (sr [mt 58 2,aI 59 .eql 58 34] (.cond (.t 59) (sr [mt 60 14,kl 61 319 [(.t 60)],
  aB 19 32,sb 32 19 61] (.reg [A1 62 (.slarr 32 1 (.t 19) none none),mt 18 62])) (.seq (.regd [⟨0,0,mt 64 1⟩,⟨1,0,mt 65 14⟩,⟨2,2,A1 66 (.s2a 32 1 (.t 65))⟩,⟨3,6,la 67 32 66⟩,⟨4,1,A1 68 (.mkmth 2 (.t 64))⟩,⟨5,17,A1 69 (.nilm 2 [422,426] (.t 68))⟩,⟨6,49,mt 70 64⟩,⟨7,127,⟨(some 71),.dyn (.c (.fcons 2 .junk .fnil)) [(.t 70),(.t 67)],none⟩⟩,⟨8,255,mt 63 71⟩,⟨9,511,ee 72 63 0⟩,⟨11,0,aB 20 64⟩,⟨12,2047,sb 64 20 72⟩,⟨10,511,ee 73 63 1⟩,⟨13,8191,mt 21 73⟩]) (.seq (sr [mt 74 21,A1 75 (.eq true true (.iface [74]) (.t 74) (.c .nili))] (.cond (.t 75) (sr [la 76 19 5,mt 77 21,sb 19 10 76,mt 11 77] .ret) .skip)) (.reg [A1 78 (.slarr 64 1 (.t 20) none none),mt 18 78]))))) (.seq (sr [mt 79 13,
  mU 80 0] (.block 2 (.loop (sr [ak 81 .lss 80 79] (.seq (DJ 81 2) (.seq (.block 3 (sr [mt 82 80,mt 22 82] (.seq (.regd [⟨4,0,mt 87 18⟩,⟨5,0,mt 88 22⟩,⟨6,2,aV 89 .mul 8 88⟩,⟨7,7,A1 90 (.slsl 1 (.t 87) (some (.t 89)) none)⟩,⟨8,15,kl 91 308 [(.t 90)]⟩,⟨0,0,mt 83 1⟩,⟨1,0,mt 84 4⟩,⟨2,0,mt 85 22⟩,⟨3,192,ak 86 .add 84 85⟩,⟨9,32,A1 92 (.mkmth 1 (.t 83))⟩,⟨10,544,A1 93 (.nilm 1 [422,426] (.t 92))⟩,⟨11,1568,mt 94 83⟩,⟨12,4095,⟨(some 95),.dyn (.c (.fcons 1 .junk .fnil)) [(.t 94),(.t 86),(.t 91)],none⟩⟩,⟨13,8191,mt 23 95⟩]) (sr [mt 96 23,A1 97 (.eq true true (.iface [74]) (.t 96) (.c .nili))] (.cond (.t 97) (sr [la 98 19 5,mt 99 23,sb 19 10 98,mt 11 99] .ret) .skip))))) (.reg [aU 100 .add 80 1,mt 80 100]))))))) (sr [fa 101 16 5,lb 102 1 101,
  aU 103 .add 102 1,fa 104 16 5,sb 1 104 103] (sr [la 105 19 5,sb 19 10 105,mn 11] .ret)))))
theorem Uc (ok:OkQ M) (I:MemI M) (g:Nat→BitVec 64) (pc:BitVec 64) (xt:BitVec 64) (b:BitVec 64) (hb:b.toNat + 4≤8192) (s:I.σ) (hL:I.len s≤50) (l:List (BitVec 64)) (hl:l.length=8) (q:Hd × Option Int × I.σ)
 (hq:MI I.mm ⟨g,pc,false,xt⟩ s b 4 (Co (Pr.mk' (Eh l)).at).at=q) (x:Ctx) (hx:x.k=I.kk) :
 AV M x (Ap M x [.cell 10 true 19,.tmp 11] (Q3 (Ai q.1.v (Cn q.2.1)) (I.E q.2.2 I.kk) (I.kk + 1))) [.code Ahu] 21
  (fr 106 [(1,.ifc I.t (.ptr 0 [])),(2,.int .i64 34),(4,W b),(5,.ptr 17 []),(10,.ptr 18 []),(11,.nili),(13,W 4#64),(14,.sl 19 [] 0 64 1)])
  ((17,Ba g pc false xt) :: (18,Ba (fun _=>0#64) 0#64 false 0#64) :: (19,.ar 1 64 fun j=>B (Eh l j)) :: I.E s 20):=by
 have hP:∀ j,j < 64→(Pr.mk' (Eh l)).at j=Eh l j:=fun j hj=>Pr.at_mk' _ _ hj;generalize Pr.mk' (Eh l)=P at *
 subst hq;refine es 9 ?_;simp only [Ahu,Fm,seval];refine cpK (Du ok.okA ok.ok.toOkH P.at) (by (try simp only [dg,LY,seval]) <;> first | exact q1 | (exact fun j hj=>(hP j hj).symm)) (by simp only [dg,LX]) ?_;generalize Co P.at=D at *
 simp only [Bn,seval];refine AV.weak _ _ _ ?_ (RO ok I g pc xt b 4 Aa hb D.at s hL x hx);refine Ak.frK [0,1,2,3,4,5,6,7,8,9,10,11,12,13,14,15,16,17,18,101,20] Hw AG Al ?_ ?_
 ·simp only [LY,seval]
 ·simp only [Lc9,dg,seval];exact I.sm [_,_,_,_] (n:=10000) Ca Ca Ca
theorem S0 (ok:OkQ M) (I:MemI M) (g:Nat→BitVec 64) (pc:BitVec 64) (xt:BitVec 64) (b:BitVec 64) (hb:b.toNat + 8≤8192) (s:I.σ) (hL:I.len s≤50) (l:List (BitVec 64)) (hl:l.length=4) (q:Hd × Option Int × I.σ)
 (hq:Aea I.mm ⟨g,pc,false,xt⟩ s b (Dg.mk' (Eh l))=q) (x:Ctx) (hx:x.k=I.kk) :
 AV M x (Ap M x [.cell 10 true 19,.tmp 11] (Q3 (Ai q.1.v (Cn q.2.1)) (I.E q.2.2 I.kk) (I.kk + 1))) [.code Ahu] 21
  (fr 106 [(1,.ifc I.t (.ptr 0 [])),(2,.int .i64 35),(4,W b),(5,.ptr 17 []),(10,.ptr 18 []),(11,.nili),(13,W 8#64),(14,.sl 19 [] 0 32 1)])
  ((17,Ba g pc false xt) :: (18,Ba (fun _=>0#64) 0#64 false 0#64) :: (19,.ar 1 32 fun j=>B (Eh l j)) :: I.E s 20):=by
 have hP:∀ j,j < 32→(Dg.mk' (Eh l)).at j=Eh l j:=fun j hj=>Dg.at_mk' _ _ hj;generalize Dg.mk' (Eh l)=D at *
 rw [Aea] at hq;refine es 14 ?_;simp only [Ahu,Fm,I.nil_in,I.idsE,seval];refine I.opyP [_,_,_] (h:=D) (fun H m z=>?_) Al Ca ?_
 ·simp only [Bz,dg,LY,seval];exact fun j hj=>by rw [hP j hj]
 ·generalize hr:I.mm.pi s D=r at *
  obtain ⟨p,e,s'⟩:=r;cases e with
  | some e =>
    dsimp only at hq;subst hq;simp only [AA,Bb,List.nil_append,I.idsE,AL,seval];refine es 20 ?_;simp only [Fm,seval];exact I.ret [_,_,_,_] (q:=I.kk) ⟨by have:=I.hk;omega,by have:=I.hk;omega⟩ hx Al Ca ⟨rfl,rfl,rfl⟩ (by (simp only [Gc,seval])) (by (simp only [Lbs,seval]))
  | none =>
    dsimp only at hq;subst hq;simp only [Kn,I.idsE,AL,seval];refine AV.weak _ _ _ ?_ (RO ok I g pc xt b 8 Aa hb p.at s' (by have:=I.lp s D;rw [hr] at this;exact Nat.le_trans this hL) x hx);refine Ak.frK [0,1,2,3,4,5,6,7,8,9,10,11,12,13,14,15,16,17,18,229,20] Hw AG Al ?_ ?_
    ·simp only [LY,seval]
    ·simp only [Lc9,dg,seval];exact I.sm [_,_,_,_] (n:=10000) Ca Ca Ca
theorem RR (ok:OkQ M) (I:MemI M) (g:Nat→BitVec 64) (pc:BitVec 64) (xt:BitVec 64) (a b:BitVec 64) (s:I.σ) (h:(wi a 8#64 && wi b 4#64)=false) :
 Ae M 348 [Ba g pc false xt,.ifc I.t (.ptr 0 []),.int .i64 34,W a,W b] (I.E s I.k0) I.kk (Q3 (Ai (Ba g pc true AD) .nili) (I.E s I.k0) (I.kk + 1)):=by
 refine Ab ok.okN.k348 rfl fun x hx=>?_;refine AV.up (N':=32) Hw ?_;cases h1:wi a 8#64 with
 | false =>
   refine eX ?_;simp only [Sj,TG,Fm,seval];refine Aj (BA ok.okN a 8#64) ?_;simp only [h1,LZ,seval];have zz:=@f8;refine Dh (BJ ok.okN g pc false xt AD) ?_;simp only [Fm,seval];exact I.retU [_,_] (n:=10000) hx Ca ⟨rfl,rfl,rfl⟩ (by (simp only [Gc,seval])) (by (simp only [Gc,seval,LY]))
 | true =>
   rw [h1,Bool.true_and] at h;refine eX ?_;simp only [Sj,TG,Fm,seval];refine Aj (BA ok.okN a 8#64) ?_;simp only [h1,LZ,seval];refine Aj (BA ok.okN b 4#64) ?_;simp only [h,LZ,seval];have zz:=@f8;refine Dh (BJ ok.okN g pc false xt AD) ?_;simp only [Fm,seval];exact I.retU [_,_] (n:=10000) hx Ca ⟨rfl,rfl,rfl⟩ (by (simp only [Gc,seval])) (by (simp only [Gc,seval,LY]))
theorem Ug (ok:OkQ M) (I:MemI M) (g:Nat→BitVec 64) (pc:BitVec 64) (xt:BitVec 64) (a b:BitVec 64) (s0:I.σ) (hL0:I.len s0≤1) (h1:wi a 8#64=true) (h2:wi b 4#64=true) (q:Hd × Option Int × I.σ) (hq:TL I.mm 34 ⟨g,pc,false,xt⟩ s0 a b=q) :
 Ae M 348 [Ba g pc false xt,.ifc I.t (.ptr 0 []),.int .i64 34,W a,W b] (I.E s0 I.k0) I.kk (Q3 (Ai q.1.v (Cn q.2.1)) (I.E q.2.2 I.kk) (I.kk + 1)):=by
 have hk:=I.hk;have ha:=Eu h1;have hb:=Eu h2;simp only [TL,h1,h2,Bool.and_self,Bool.true_eq_false,B4,seval] at hq;refine Ab ok.okN.k348 rfl fun x hx=>?_;refine AV.up (N':=32) Aa ?_;refine eX ?_;simp only [Sj,TG,Fm,seval];refine Aj (BA ok.okN a 8#64) ?_;simp only [h1,LZ,seval];refine Aj (BA ok.okN b 4#64) ?_;simp only [h2,LZ,seval];refine A5 ?_;refine eX ?_;simp only [LZ,seval];have hlt0:=K6 a 0 (by have:(8#64:BitVec 64).toNat=8:=rfl;omega);generalize hR:Sf I.mm a 8 0 s0 []=R at hq;rw [Sf] at hR;refine I.dynRk [_,_] Aa hlt0 Ca ?_;cases he:(I.mm.rd s0 (a + BitVec.ofNat 64 0)).2.1 with
 | some e =>
   rw [he] at hR;subst hR;dsimp only at hq;subst hq;simp only [he,AA,Lbw,seval];exact I.ret [_,_] (q:=I.kk) ⟨by omega,by omega⟩ hx Al Ca ⟨rfl,rfl,rfl⟩ (by (simp only [Gc,seval])) (by (simp only [Lbs,seval]))
 | none =>
   rw [he] at hR;dsimp only at hR;have hL1:=I.lr s0 (a + BitVec.ofNat 64 0);generalize hs1:(I.mm.rd s0 (a + BitVec.ofNat 64 0)).2.2=s1 at *
   generalize hw0:(I.mm.rd s0 (a + BitVec.ofNat 64 0)).1=w0 at *
   simp only [he,Kn,Ba,seval];refine DY (DS ok.okA ok.ok w0) ?_;simp only [LZ,seval];refine Am (σ:=Nat × I.σ × List (BitVec 64)) (fun q=>(1≤q.1∧q.1≤8)∧I.len q.2.1≤1 + q.1∧q.2.2.length=q.1∧Sf I.mm a (8 - q.1) q.1 q.2.1 q.2.2=R)
    (fun q=>fr 106 [(1,.ifc I.t (.ptr 0 [])),(2,.int .i64 34),(3,W a),(4,W b),(5,.ptr 17 []),(10,.ptr 18 []),(11,.nili),(13,W 4#64),(14,.sl 19 [] 0 (8 * q.1) 1),(38,W 8#64),(39,W (BitVec.ofNat 64 q.1))])
    (fun q=>(17,Ba g pc false xt) :: (18,Ba (fun _=>0#64) 0#64 false 0#64) :: (19,.ar 1 (8 * q.1) fun j=>B (Eh q.2.2 j)) :: I.E q.2.1 20) (fun _=>21) (fun q=>8 - q.1) (1,s1,[w0]) ⟨⟨by omega,by omega⟩,by show I.len s1≤1 + 1;omega,rfl,hR⟩ ?_ ?_
   ·refine Ak.frK [0,1,2,3,4,5,6,7,8,9,10,11,12,13,14,15,16,32,48,624,464] Aa AG Al ?_ ?_
    ·simp only [LY,seval]
    ·simp only [Lc9,seval];refine ⟨fun i hi=>?_,I.sm [_,_,_] (n:=10000) Ca Ca Ca⟩;have q1:i / 8=0:=Aa;have q2:i % 8=i:=Aa;simp only [Eh,Bo,q1,q2];rfl
   ·rintro ⟨i,s,l⟩ ⟨⟨hi1,hi⟩,hLi,hl,hw⟩;dsimp only at hi1 hi hl hw hLi ⊢;have hL:I.len s≤100:=Aa;have e1:=SD i 8 Aa Aa;by_cases h8:i=8
    ·subst h8;have d0:=eq_false (Nat.lt_irrefl 8);rw [Nat.sub_self,Sf] at hw;subst hw;dsimp only at hq;refine es 5 ?_;simp only [e1,d0,Fm,seval];refine AV.weak _ _ _ ?_ (Uc ok I g pc xt b hb s Aa l hl q hq x hx);refine Ak.frK [0,1,2,3,4,5,6,7,8,9,10,11,12,13,14,15,16,17,18,19,20] Aa AG Al ?_ ?_
     ·simp only [LY,seval]
     ·simp only [Lc9,seval];exact I.sm [_,_,_] (n:=10000) Ca Ca Ca
    ·have hit:i < 8:=Nat.lt_of_le_of_ne hi h8;have t4:=Mj i;have hlt:=K6 a i (by have:(8#64:BitVec 64).toNat=8:=rfl;omega);have d0:=eq_true hit;rw [show 8 - i=(8 - (i + 1)) + 1 by omega,Sf] at hw;refine eX ?_;simp only [e1,d0,Fm,seval];have hL2:=I.lr s (a + BitVec.ofNat 64 i);refine I.dynR [_,_,_] hL hlt Al Ca ?_;cases he2:(I.mm.rd s (a + BitVec.ofNat 64 i)).2.1 with
     | some e =>
       rw [he2] at hw;subst hw;dsimp only at hq;subst hq;simp only [he2,AA,Lbw,seval];exact I.ret [_,_,_] (q:=I.kk) ⟨by omega,by omega⟩ hx Al Ca ⟨rfl,rfl,rfl⟩ (by (simp only [Gc,seval])) (by (simp only [Lbs,seval]))
     | none =>
       rw [he2] at hw;simp only [he2,Kn,Ba,seval];dsimp only at hw;generalize (I.mm.rd s (a + BitVec.ofNat 64 i)).2.2=s2 at *
       generalize (I.mm.rd s (a + BitVec.ofNat 64 i)).1=w2 at *
       have zz:=@Cg;refine GY [19] (DR ok.okA ok.ok (8 * i) Aa (Eh l) w2) ?_;simp only [I.hdelE,t4,LZ,seval];refine ⟨(i + 1,s2,l ++ [w2]),by omega,by show i + 1≤8;omega,by show I.len s2≤1 + (i + 1);omega,by simp [hl],hw,by omega,?_⟩;dsimp only;rw [show 8 * (i + 1)=8 * i + 8 by omega];refine Ak.frK [0,1,2,3,4,5,6,7,8,9,10,11,12,13,14,15,16,17,18,293,133] Aa AG Al ?_ ?_
       ·simp only [LY,seval]
       ·simp only [Lc9,seval];refine ⟨fun j hj=>?_,I.sm [_,_,_] (n:=10000) Ca Ca Ca⟩;rw [Eh,Bo,Eh,Bo];by_cases e:j < 8 * i
        ·rw [if_pos e,List.getD_eq_getElem?_getD,List.getD_eq_getElem?_getD,List.getElem?_append_left Aa]
        ·have e1:j / 8=i:=Aa;have e2:j % 8=j - 8 * i:=Aa;rw [if_neg e,e1,e2,List.getD_eq_getElem?_getD,List.getElem?_append_right Aa,hl,Nat.sub_self];rfl
theorem PG (ok:OkQ M) (I:MemI M) (g:Nat→BitVec 64) (pc:BitVec 64) (xt:BitVec 64) (a b:BitVec 64) (s:I.σ) (h:(wi a 4#64 && wi b 8#64)=false) :
 Ae M 348 [Ba g pc false xt,.ifc I.t (.ptr 0 []),.int .i64 35,W a,W b] (I.E s I.k0) I.kk (Q3 (Ai (Ba g pc true AD) .nili) (I.E s I.k0) (I.kk + 1)):=by
 refine Ab ok.okN.k348 rfl fun x hx=>?_;refine AV.up (N':=32) Hw ?_;cases h1:wi a 4#64 with
 | false =>
   refine eX ?_;simp only [Sj,TG,Fm,seval];refine Aj (BA ok.okN a 4#64) ?_;simp only [h1,LZ,seval];have zz:=@f8;refine Dh (BJ ok.okN g pc false xt AD) ?_;simp only [Fm,seval];exact I.retU [_,_] (n:=10000) hx Ca ⟨rfl,rfl,rfl⟩ (by (simp only [Gc,seval])) (by (simp only [Gc,seval,LY]))
 | true =>
   rw [h1,Bool.true_and] at h;refine eX ?_;simp only [Sj,TG,Fm,seval];refine Aj (BA ok.okN a 4#64) ?_;simp only [h1,LZ,seval];refine Aj (BA ok.okN b 8#64) ?_;simp only [h,LZ,seval];have zz:=@f8;refine Dh (BJ ok.okN g pc false xt AD) ?_;simp only [Fm,seval];exact I.retU [_,_] (n:=10000) hx Ca ⟨rfl,rfl,rfl⟩ (by (simp only [Gc,seval])) (by (simp only [Gc,seval,LY]))
theorem Tv (ok:OkQ M) (I:MemI M) (g:Nat→BitVec 64) (pc:BitVec 64) (xt:BitVec 64) (a b:BitVec 64) (s0:I.σ) (hL0:I.len s0≤1) (h1:wi a 4#64=true) (h2:wi b 8#64=true) (q:Hd × Option Int × I.σ) (hq:TL I.mm 35 ⟨g,pc,false,xt⟩ s0 a b=q) :
 Ae M 348 [Ba g pc false xt,.ifc I.t (.ptr 0 []),.int .i64 35,W a,W b] (I.E s0 I.k0) I.kk (Q3 (Ai q.1.v (Cn q.2.1)) (I.E q.2.2 I.kk) (I.kk + 1)):=by
 have hk:=I.hk;have ha:=Eu h1;have hb:=Eu h2;simp only [TL,h1,h2,Bool.and_self,Bool.true_eq_false,B4,seval] at hq;refine Ab ok.okN.k348 rfl fun x hx=>?_;refine AV.up (N':=32) Aa ?_;refine eX ?_;simp only [Sj,TG,Fm,seval];refine Aj (BA ok.okN a 4#64) ?_;simp only [h1,LZ,seval];refine Aj (BA ok.okN b 8#64) ?_;simp only [h2,LZ,seval];refine A5 ?_;refine eX ?_;simp only [LZ,seval];have hlt0:=K6 a 0 (by have:(4#64:BitVec 64).toNat=4:=rfl;omega);generalize hR:Sf I.mm a 4 0 s0 []=R at hq;rw [Sf] at hR;refine I.dynRk [_,_] Aa hlt0 Ca ?_;cases he:(I.mm.rd s0 (a + BitVec.ofNat 64 0)).2.1 with
 | some e =>
   rw [he] at hR;subst hR;dsimp only at hq;subst hq;simp only [he,AA,Lbw,seval];exact I.ret [_,_] (q:=I.kk) ⟨by omega,by omega⟩ hx Al Ca ⟨rfl,rfl,rfl⟩ (by (simp only [Gc,seval])) (by (simp only [Lbs,seval]))
 | none =>
   rw [he] at hR;dsimp only at hR;have hL1:=I.lr s0 (a + BitVec.ofNat 64 0);generalize hs1:(I.mm.rd s0 (a + BitVec.ofNat 64 0)).2.2=s1 at *
   generalize hw0:(I.mm.rd s0 (a + BitVec.ofNat 64 0)).1=w0 at *
   simp only [he,Kn,Ba,seval];refine DY (DS ok.okA ok.ok w0) ?_;simp only [LZ,seval];refine Am (σ:=Nat × I.σ × List (BitVec 64)) (fun q=>(1≤q.1∧q.1≤4)∧I.len q.2.1≤1 + q.1∧q.2.2.length=q.1∧Sf I.mm a (4 - q.1) q.1 q.2.1 q.2.2=R)
    (fun q=>fr 106 [(1,.ifc I.t (.ptr 0 [])),(2,.int .i64 35),(3,W a),(4,W b),(5,.ptr 17 []),(10,.ptr 18 []),(11,.nili),(13,W 8#64),(14,.sl 19 [] 0 (8 * q.1) 1),(38,W 4#64),(39,W (BitVec.ofNat 64 q.1))])
    (fun q=>(17,Ba g pc false xt) :: (18,Ba (fun _=>0#64) 0#64 false 0#64) :: (19,.ar 1 (8 * q.1) fun j=>B (Eh q.2.2 j)) :: I.E q.2.1 20) (fun _=>21) (fun q=>4 - q.1) (1,s1,[w0]) ⟨⟨by omega,by omega⟩,by show I.len s1≤1 + 1;omega,rfl,hR⟩ ?_ ?_
   ·refine Ak.frK [0,1,2,3,4,5,6,7,8,9,10,11,12,13,14,15,16,32,48,656,496] Aa AG Al ?_ ?_
    ·simp only [LY,seval]
    ·simp only [Lc9,seval];refine ⟨fun i hi=>?_,I.sm [_,_,_] (n:=10000) Ca Ca Ca⟩;have q1:i / 8=0:=Aa;have q2:i % 8=i:=Aa;simp only [Eh,Bo,q1,q2];rfl
   ·rintro ⟨i,s,l⟩ ⟨⟨hi1,hi⟩,hLi,hl,hw⟩;dsimp only at hi1 hi hl hw hLi ⊢;have hL:I.len s≤100:=Aa;have e1:=SD i 4 Aa Aa;by_cases h8:i=4
    ·subst h8;have d0:=eq_false (Nat.lt_irrefl 4);rw [Nat.sub_self,Sf] at hw;subst hw;dsimp only at hq;refine es 5 ?_;simp only [e1,d0,Fm,seval];refine AV.weak _ _ _ ?_ (S0 ok I g pc xt b hb s Aa l hl q hq x hx);refine Ak.frK [0,1,2,3,4,5,6,7,8,9,10,11,12,13,14,15,16,17,18,19,20] Aa AG Al ?_ ?_
     ·simp only [LY,seval]
     ·simp only [Lc9,seval];exact I.sm [_,_,_] (n:=10000) Ca Ca Ca
    ·have hit:i < 4:=Nat.lt_of_le_of_ne hi h8;have t4:=Mj i;have hlt:=K6 a i (by have:(4#64:BitVec 64).toNat=4:=rfl;omega);have d0:=eq_true hit;rw [show 4 - i=(4 - (i + 1)) + 1 by omega,Sf] at hw;refine eX ?_;simp only [e1,d0,Fm,seval];have hL2:=I.lr s (a + BitVec.ofNat 64 i);refine I.dynR [_,_,_] hL hlt Al Ca ?_;cases he2:(I.mm.rd s (a + BitVec.ofNat 64 i)).2.1 with
     | some e =>
       rw [he2] at hw;subst hw;dsimp only at hq;subst hq;simp only [he2,AA,Lbw,seval];exact I.ret [_,_,_] (q:=I.kk) ⟨by omega,by omega⟩ hx Al Ca ⟨rfl,rfl,rfl⟩ (by (simp only [Gc,seval])) (by (simp only [Lbs,seval]))
     | none =>
       rw [he2] at hw;simp only [he2,Kn,Ba,seval];dsimp only at hw;generalize (I.mm.rd s (a + BitVec.ofNat 64 i)).2.2=s2 at *
       generalize (I.mm.rd s (a + BitVec.ofNat 64 i)).1=w2 at *
       have zz:=@Cg;refine GY [19] (DR ok.okA ok.ok (8 * i) Aa (Eh l) w2) ?_;simp only [I.hdelE,t4,LZ,seval];refine ⟨(i + 1,s2,l ++ [w2]),by omega,by show i + 1≤4;omega,by show I.len s2≤1 + (i + 1);omega,by simp [hl],hw,by omega,?_⟩;dsimp only;rw [show 8 * (i + 1)=8 * i + 8 by omega];refine Ak.frK [0,1,2,3,4,5,6,7,8,9,10,11,12,13,14,15,16,17,18,293,133] Aa AG Al ?_ ?_
       ·simp only [LY,seval]
       ·simp only [Lc9,seval];refine ⟨fun j hj=>?_,I.sm [_,_,_] (n:=10000) Ca Ca Ca⟩;rw [Eh,Bo,Eh,Bo];by_cases e:j < 8 * i
        ·rw [if_pos e,List.getD_eq_getElem?_getD,List.getD_eq_getElem?_getD,List.getElem?_append_left Aa]
        ·have e1:j / 8=i:=Aa;have e2:j % 8=j - 8 * i:=Aa;rw [if_neg e,e1,e2,List.getD_eq_getElem?_getD,List.getElem?_append_right Aa,hl,Nat.sub_self];rfl
end Mv
