/- A part. -/
import Derived.Test.YtncipgmjhaiagaaGreatDoorHE
set_option linter.all false
set_option maxRecDepth 20000
set_option maxHeartbeats 4000000
namespace Mv
open Go
variable {M:Seat}
structure OkQ (M:Seat):Prop where
 okA:OkM M
 ok:OkO M
 okP:OkP M
 okN:OkNx M
theorem Av (e:Int):Cw (some e) = .ifc 74 (.int .i64 e):=rfl
theorem Bz:Cw none = .nili:=rfl
def Lbs:=(aq5 @Hd.v.eq_1 @LY @Fi @Bz @Av)
def J1:=(aq3 @Cb @List.nil_append.{0} @Bz)
def RP:=(aq8 @Hd.stop.eq_1 @Hd.v.eq_1 @LY @Fi @Bz @Av @JZ @E9.eq_1)
theorem Ql (pc:BitVec 64) (h:¬ 8192#64≤pc):pc.toNat < 8192:=by rw [BitVec.le_def] at h;simpa using h
theorem IB (ok:OkQ M) (I:MemI M) (g:Nat→BitVec 64) (pc:BitVec 64) (xt:BitVec 64) (s:I.σ) :
 Af M 241 [AU g pc true xt,.ifc I.t (.ptr 0 [])] (I.E0 s) I.k0 (Q3 (Ao (AU g pc true xt) .nili) (I.E0 s) (I.k0 + 1)):=by
 refine Ac ok.okN.k241 rfl fun x hx=>?_
 refine Bl.up (N':=32) G2 ?_
 refine es 2000 ?_;(simp only [Oh,I.hdel0,seval])
 exact I.ret0 [_,_] (n:=100) hx Bx ⟨rfl,rfl,rfl⟩ (by (simp only [Fi,seval])) (by (simp only [Fi,seval,LY])) Ak
theorem GK (ok:OkQ M) (I:MemI M) (g:Nat→BitVec 64) (pc:BitVec 64) (xt:BitVec 64) (s:I.σ) (hpc:8192#64≤pc) :
 Af M 241 [AU g pc false xt,.ifc I.t (.ptr 0 [])] (I.E0 s) I.k0 (Q3 (Ao (AU g pc true Ap) .nili) (I.E0 s) (I.k0 + 1)):=by
 refine Ac ok.okN.k241 rfl fun x hx=>?_
 refine Bl.up (N':=32) G2 ?_
 refine es 2000 ?_;(simp only [Oh,I.hdel0,hpc,seval])
 have zz:=@AU.eq_1;refine CI (Bs ok.okN g pc false xt Ap) ?_
 (simp only [G4,seval])
 exact I.ret0 [_,_] (n:=100) hx Bx ⟨rfl,rfl,rfl⟩ (by (simp only [Fi,seval])) (by (simp only [Fi,seval,LY])) Ak
theorem Rx (ok:OkQ M) (I:MemI M) (g:Nat→BitVec 64) (pc:BitVec 64) (xt:BitVec 64) (s:I.σ) (hz:I.Z s) (hpc:¬ 8192#64≤pc) (e:Int) (he:(I.mm.rd s pc).2.1=some e) :
 Af M 241 [AU g pc false xt,.ifc I.t (.ptr 0 [])] (I.E0 s) I.k0 (Q3 (Ao (AU g pc false xt) (Cw (some e))) (I.E (I.mm.rd s pc).2.2 I.k0) (I.k0 + 1)):=by
 refine Ac ok.okN.k241 rfl fun x hx=>?_
 refine Bl.up (N':=32) G2 ?_
 refine es 2000 ?_;(simp only [Oh,I.hdel0,hpc,seval])
 refine I.dynR0 [_,_] hz hpc Bx ?_
 (simp only [he,Av,Cb,List.nil_append,seval])
 exact I.ret [_,_] (q:=I.k0) ⟨Nat.le_refl _,by have:=I.hk;omega⟩ hx Ak Bx ⟨rfl,rfl,rfl⟩ (by (simp only [Fi,seval])) (by (simp only [Fi,Av,seval,LY]))
theorem TD (ok:OkQ M) (I:MemI M) (g:Nat→BitVec 64) (pc:BitVec 64) (xt:BitVec 64) (s:I.σ) (hz:I.Z s) (hpc:¬ 8192#64≤pc) (w:BitVec 64) (hw:(I.mm.rd s pc).1=w) (he:(I.mm.rd s pc).2.1=none) (s1:I.σ) (hs:(I.mm.rd s pc).2.2=s1) (h:¬ (AT w≤35∧w >>> 32 &&& 255#64=0#64)) :
 Af M 241 [AU g pc false xt,.ifc I.t (.ptr 0 [])] (I.E0 s) I.k0 (Q3 (Ao (AU g pc true Ap) (Cw (none))) (I.E (s1) I.k0) (I.k0 + 1)):=by
 refine Ac ok.okN.k241 rfl fun x hx=>?_
 refine Bl.up (N':=32) G2 ?_
 have a1:=Ai w 52
 have a2:=Ai w 48
 have a3:=Ai w 44
 have a4:=Ai w 40
 have hL:I.len s1≤100:=FC
 refine es 2000 ?_;(simp only [Oh,I.hdel0,hpc,seval])
 refine I.dynR0 [_,_] hz hpc Bx ?_
 rw [hw,he,hs]
 (simp only [J1,seval])
 refine Ah (GZ ok.ok.toOkV w h) ?_
 (simp only [LZ,seval])
 repeat refine sd ?_
 have zz:=@AU.eq_1;refine CI (Bs ok.okN g pc false xt Ap) ?_
 (simp only [G4,seval])
 exact I.ret [_,_] (q:=I.k0) ⟨Nat.le_refl _,by have:=I.hk;omega⟩ hx Ak Bx ⟨rfl,rfl,rfl⟩ (by (simp only [Fi,seval])) (by (simp only [RP,seval]))
theorem Ot (ok:OkQ M) (I:MemI M) (g:Nat→BitVec 64) (pc:BitVec 64) (xt:BitVec 64) (s:I.σ) (hz:I.Z s) (hpc:¬ 8192#64≤pc) (w:BitVec 64) (hw:(I.mm.rd s pc).1=w) (he:(I.mm.rd s pc).2.1=none) (s1:I.σ) (hs:(I.mm.rd s pc).2.2=s1) (hop:AT w=0) (h2:w >>> 32 &&& 255#64=0#64) :
 Af M 241 [AU g pc false xt,.ifc I.t (.ptr 0 [])] (I.E0 s) I.k0 (Q3 (Ao (AU g pc true (g (pF w 48))) (Cw (none))) (I.E (s1) I.k0) (I.k0 + 1)):=by
 refine Ac ok.okN.k241 rfl fun x hx=>?_
 refine Bl.up (N':=32) G2 ?_
 have a1:=Ai w 52
 have a2:=Ai w 48
 have a3:=Ai w 44
 have a4:=Ai w 40
 have hL:I.len s1≤100:=FC
 refine es 2000 ?_;(simp only [Oh,I.hdel0,hpc,seval])
 refine I.dynR0 [_,_] hz hpc Bx ?_
 rw [hw,he,hs]
 (simp only [J1,seval])
 have zz:=@Bb.eq_1;refine CI (Az ok.ok.toOkV w Aa h2) ?_
 (simp only [Hi,hop,I.idsE,seval])
 repeat refine sd ?_
 have zz:=@AU.eq_1;refine Gy (Bs ok.okN g pc false xt (g (pF w 48))) ?_
 (simp only [G4,I.idsE,seval])
 exact I.ret [_,_] (q:=I.k0) ⟨Nat.le_refl _,by have:=I.hk;omega⟩ hx Ak Bx ⟨rfl,rfl,rfl⟩ (by (simp only [Fi,seval])) (by (simp only [RP,seval]))
theorem Ue (ok:OkQ M) (I:MemI M) (g:Nat→BitVec 64) (pc:BitVec 64) (xt:BitVec 64) (s:I.σ) (hz:I.Z s) (hpc:¬ 8192#64≤pc) (w:BitVec 64) (hw:(I.mm.rd s pc).1=w) (he:(I.mm.rd s pc).2.1=none) (s1:I.σ) (hs:(I.mm.rd s pc).2.2=s1) (hop:AT w=26) (h2:w >>> 32 &&& 255#64=0#64) :
 Af M 241 [AU g pc false xt,.ifc I.t (.ptr 0 [])] (I.E0 s) I.k0 (Q3 (Ao (AU (E9 g (pF w 52) (BitVec.ofInt 64 (pN w))) (pc + 1#64) false xt) (Cw (none))) (I.E (s1) I.k0) (I.k0 + 1)):=by
 refine Ac ok.okN.k241 rfl fun x hx=>?_
 refine Bl.up (N':=32) G2 ?_
 have a1:=Ai w 52
 have a2:=Ai w 48
 have a3:=Ai w 44
 have a4:=Ai w 40
 have hL:I.len s1≤100:=FC
 refine es 2000 ?_;(simp only [Oh,I.hdel0,hpc,seval])
 refine I.dynR0 [_,_] hz hpc Bx ?_
 rw [hw,he,hs]
 (simp only [J1,seval])
 have zz:=@Bb.eq_1;refine CI (Az ok.ok.toOkV w Aa h2) ?_
 (simp only [Hi,hop,I.idsE,seval])
 repeat refine sd ?_
 exact I.ret [_,_] (q:=I.k0) ⟨Nat.le_refl _,by have:=I.hk;omega⟩ hx Ak Bx ⟨rfl,rfl,rfl⟩ (by (simp only [Fi,seval])) (by (simp only [RP,seval]))
theorem NQ (ok:OkQ M) (I:MemI M) (g:Nat→BitVec 64) (pc:BitVec 64) (xt:BitVec 64) (s:I.σ) (hz:I.Z s) (hpc:¬ 8192#64≤pc) (w:BitVec 64) (hw:(I.mm.rd s pc).1=w) (he:(I.mm.rd s pc).2.1=none) (s1:I.σ) (hs:(I.mm.rd s pc).2.2=s1) (op:Nat) (h1:1≤op) (h25:op≤25) (hop:AT w=op) (h2:w >>> 32 &&& 255#64=0#64) :
 Af M 241 [AU g pc false xt,.ifc I.t (.ptr 0 [])] (I.E0 s) I.k0 (Q3 (Ao (AU (E9 g (pF w 52) (P1 op (g (pF w 48)) (g (pF w 44)) (g (pF w 40)))) (pc + 1#64) false xt) (Cw (none))) (I.E (s1) I.k0) (I.k0 + 1)):=by
 refine Ac ok.okN.k241 rfl fun x hx=>?_
 refine Bl.up (N':=32) G2 ?_
 have a1:=Ai w 52
 have a2:=Ai w 48
 have a3:=Ai w 44
 have a4:=Ai w 40
 have hL:I.len s1≤100:=FC
 have d1:((op:Int)=0)=False:=eq_false Aa
 have d2:((op:Int) < 26)=True:=eq_true Aa
 refine es 2000 ?_;(simp only [Oh,I.hdel0,hpc,seval])
 refine I.dynR0 [_,_] hz hpc Bx ?_
 rw [hw,he,hs]
 (simp only [J1,seval])
 have zz:=@Bb.eq_1;refine CI (Az ok.ok.toOkV w Aa h2) ?_
 (simp only [Hi,hop,d1,d2,I.idsE,seval])
 repeat refine sd ?_
 refine BI (JY ok.okP op h1 h25 (g (pF w 48)) (g (pF w 44)) (g (pF w 40))) ?_
 (simp only [Cb,I.idsE,seval])
 repeat refine sd ?_
 exact I.ret [_,_] (q:=I.k0) ⟨Nat.le_refl _,by have:=I.hk;omega⟩ hx Ak Bx ⟨rfl,rfl,rfl⟩ (by (simp only [Fi,seval])) (by (simp only [RP,seval]))
theorem QH (ok:OkQ M) (I:MemI M) (g:Nat→BitVec 64) (pc:BitVec 64) (xt:BitVec 64) (s:I.σ) (hz:I.Z s) (hpc:¬ 8192#64≤pc) (w:BitVec 64) (hw:(I.mm.rd s pc).1=w) (he:(I.mm.rd s pc).2.1=none) (s1:I.σ) (hs:(I.mm.rd s pc).2.2=s1) (hop:AT w=27) (h2:w >>> 32 &&& 255#64=0#64) (a:BitVec 64) (ha:g (pF w 48) + BitVec.ofInt 64 (pN w)=a) (hlt:8192#64≤a) :
 Af M 241 [AU g pc false xt,.ifc I.t (.ptr 0 [])] (I.E0 s) I.k0 (Q3 (Ao (AU g pc true Ap) (Cw (none))) (I.E (s1) I.k0) (I.k0 + 1)):=by
 refine Ac ok.okN.k241 rfl fun x hx=>?_
 refine Bl.up (N':=32) G2 ?_
 have a1:=Ai w 52
 have a2:=Ai w 48
 have a3:=Ai w 44
 have a4:=Ai w 40
 have hL:I.len s1≤100:=FC
 refine es 2000 ?_;(simp only [Oh,I.hdel0,hpc,seval])
 refine I.dynR0 [_,_] hz hpc Bx ?_
 rw [hw,he,hs]
 (simp only [J1,seval])
 have zz:=@Bb.eq_1;refine CI (Az ok.ok.toOkV w Aa h2) ?_
 (simp only [Hi,hop,ha,hlt,I.idsE,seval])
 repeat refine sd ?_
 have zz:=@AU.eq_1;refine CI (Bs ok.okN g pc false xt Ap) ?_
 (simp only [G4,seval])
 exact I.ret [_,_] (q:=I.k0) ⟨Nat.le_refl _,by have:=I.hk;omega⟩ hx Ak Bx ⟨rfl,rfl,rfl⟩ (by (simp only [Fi,seval])) (by (simp only [RP,seval]))
theorem QP (ok:OkQ M) (I:MemI M) (g:Nat→BitVec 64) (pc:BitVec 64) (xt:BitVec 64) (s:I.σ) (hz:I.Z s) (hpc:¬ 8192#64≤pc) (w:BitVec 64) (hw:(I.mm.rd s pc).1=w) (he:(I.mm.rd s pc).2.1=none) (s1:I.σ) (hs:(I.mm.rd s pc).2.2=s1) (hop:AT w=28) (h2:w >>> 32 &&& 255#64=0#64) (a:BitVec 64) (ha:g (pF w 48) + BitVec.ofInt 64 (pN w)=a) (hlt:8192#64≤a) :
 Af M 241 [AU g pc false xt,.ifc I.t (.ptr 0 [])] (I.E0 s) I.k0 (Q3 (Ao (AU g pc true Ap) (Cw (none))) (I.E (s1) I.k0) (I.k0 + 1)):=by
 refine Ac ok.okN.k241 rfl fun x hx=>?_
 refine Bl.up (N':=32) G2 ?_
 have a1:=Ai w 52
 have a2:=Ai w 48
 have a3:=Ai w 44
 have a4:=Ai w 40
 have hL:I.len s1≤100:=FC
 refine es 2000 ?_;(simp only [Oh,I.hdel0,hpc,seval])
 refine I.dynR0 [_,_] hz hpc Bx ?_
 rw [hw,he,hs]
 (simp only [J1,seval])
 have zz:=@Bb.eq_1;refine CI (Az ok.ok.toOkV w Aa h2) ?_
 (simp only [Hi,hop,ha,hlt,I.idsE,seval])
 repeat refine sd ?_
 have zz:=@AU.eq_1;refine CI (Bs ok.okN g pc false xt Ap) ?_
 (simp only [G4,seval])
 exact I.ret [_,_] (q:=I.k0) ⟨Nat.le_refl _,by have:=I.hk;omega⟩ hx Ak Bx ⟨rfl,rfl,rfl⟩ (by (simp only [Fi,seval])) (by (simp only [RP,seval]))
theorem TA (ok:OkQ M) (I:MemI M) (g:Nat→BitVec 64) (pc:BitVec 64) (xt:BitVec 64) (s:I.σ) (hz:I.Z s) (hpc:¬ 8192#64≤pc) (w:BitVec 64) (hw:(I.mm.rd s pc).1=w) (he:(I.mm.rd s pc).2.1=none) (s1:I.σ) (hs:(I.mm.rd s pc).2.2=s1) (hop:AT w=27) (h2:w >>> 32 &&& 255#64=0#64) (a:BitVec 64) (ha:g (pF w 48) + BitVec.ofInt 64 (pN w)=a) (hlt:¬ 8192#64≤a) (he2:(I.mm.rd s1 a).2.1=none) :
 Af M 241 [AU g pc false xt,.ifc I.t (.ptr 0 [])] (I.E0 s) I.k0 (Q3 (Ao (AU (E9 g (pF w 52) (I.mm.rd s1 a).1) (pc + 1#64) false xt) (Cw (none))) (I.E ((I.mm.rd s1 a).2.2) I.k0) (I.k0 + 1)):=by
 refine Ac ok.okN.k241 rfl fun x hx=>?_
 refine Bl.up (N':=32) G2 ?_
 have a1:=Ai w 52
 have a2:=Ai w 48
 have a3:=Ai w 44
 have a4:=Ai w 40
 have hL:I.len s1≤100:=FC
 refine es 2000 ?_;(simp only [Oh,I.hdel0,hpc,seval])
 refine I.dynR0 [_,_] hz hpc Bx ?_
 rw [hw,he,hs]
 (simp only [J1,seval])
 have zz:=@Bb.eq_1;refine CI (Az ok.ok.toOkV w Aa h2) ?_
 (simp only [Hi,hop,ha,hlt,I.idsE,seval])
 repeat refine sd ?_
 refine I.opyR [_,_] hL hlt Ak Bx ?_
 (simp only [he2,J1,Av,I.idsE,seval])
 repeat refine sd ?_
 exact I.ret [_,_] (q:=I.k0) ⟨Nat.le_refl _,by have:=I.hk;omega⟩ hx Ak Bx ⟨rfl,rfl,rfl⟩ (by (simp only [Fi,seval])) (by (simp only [RP,seval]))
theorem Qv (ok:OkQ M) (I:MemI M) (g:Nat→BitVec 64) (pc:BitVec 64) (xt:BitVec 64) (s:I.σ) (hz:I.Z s) (hpc:¬ 8192#64≤pc) (w:BitVec 64) (hw:(I.mm.rd s pc).1=w) (he:(I.mm.rd s pc).2.1=none) (s1:I.σ) (hs:(I.mm.rd s pc).2.2=s1) (hop:AT w=27) (h2:w >>> 32 &&& 255#64=0#64) (a:BitVec 64) (ha:g (pF w 48) + BitVec.ofInt 64 (pN w)=a) (hlt:¬ 8192#64≤a) (e:Int) (he2:(I.mm.rd s1 a).2.1=some e) :
 Af M 241 [AU g pc false xt,.ifc I.t (.ptr 0 [])] (I.E0 s) I.k0 (Q3 (Ao (AU (E9 g (pF w 52) (I.mm.rd s1 a).1) (pc + 1#64) false xt) (Cw (some e))) (I.E ((I.mm.rd s1 a).2.2) I.k0) (I.k0 + 1)):=by
 refine Ac ok.okN.k241 rfl fun x hx=>?_
 refine Bl.up (N':=32) G2 ?_
 have a1:=Ai w 52
 have a2:=Ai w 48
 have a3:=Ai w 44
 have a4:=Ai w 40
 have hL:I.len s1≤100:=FC
 refine es 2000 ?_;(simp only [Oh,I.hdel0,hpc,seval])
 refine I.dynR0 [_,_] hz hpc Bx ?_
 rw [hw,he,hs]
 (simp only [J1,seval])
 have zz:=@Bb.eq_1;refine CI (Az ok.ok.toOkV w Aa h2) ?_
 (simp only [Hi,hop,ha,hlt,I.idsE,seval])
 repeat refine sd ?_
 refine I.opyR [_,_] hL hlt Ak Bx ?_
 (simp only [he2,J1,Av,I.idsE,seval])
 repeat refine sd ?_
 exact I.ret [_,_] (q:=I.k0) ⟨Nat.le_refl _,by have:=I.hk;omega⟩ hx Ak Bx ⟨rfl,rfl,rfl⟩ (by (simp only [Fi,seval])) (by (simp only [RP,seval]))
theorem UV (ok:OkQ M) (I:MemI M) (g:Nat→BitVec 64) (pc:BitVec 64) (xt:BitVec 64) (s:I.σ) (hz:I.Z s) (hpc:¬ 8192#64≤pc) (w:BitVec 64) (hw:(I.mm.rd s pc).1=w) (he:(I.mm.rd s pc).2.1=none) (s1:I.σ) (hs:(I.mm.rd s pc).2.2=s1) (hop:AT w=28) (h2:w >>> 32 &&& 255#64=0#64) (a:BitVec 64) (ha:g (pF w 48) + BitVec.ofInt 64 (pN w)=a) (hlt:¬ 8192#64≤a) (he2:(I.mm.wr s1 a (g (pF w 44))).1=none) :
 Af M 241 [AU g pc false xt,.ifc I.t (.ptr 0 [])] (I.E0 s) I.k0 (Q3 (Ao (AU g (pc + 1#64) false xt) (Cw (none))) (I.E ((I.mm.wr s1 a (g (pF w 44))).2) I.k0) (I.k0 + 1)):=by
 refine Ac ok.okN.k241 rfl fun x hx=>?_
 refine Bl.up (N':=32) G2 ?_
 have a1:=Ai w 52
 have a2:=Ai w 48
 have a3:=Ai w 44
 have a4:=Ai w 40
 have hL:I.len s1≤100:=FC
 refine es 2000 ?_;(simp only [Oh,I.hdel0,hpc,seval])
 refine I.dynR0 [_,_] hz hpc Bx ?_
 rw [hw,he,hs]
 (simp only [J1,seval])
 have zz:=@Bb.eq_1;refine CI (Az ok.ok.toOkV w Aa h2) ?_
 (simp only [Hi,hop,ha,hlt,I.nil_in,I.idsE,seval])
 repeat refine sd ?_
 refine I.opyW [_,_] hL hlt Ak Bx ?_
 (simp only [he2,J1,Av,I.idsE,seval])
 repeat refine sd ?_
 exact I.ret [_,_] (q:=I.k0) ⟨Nat.le_refl _,by have:=I.hk;omega⟩ hx Ak Bx ⟨rfl,rfl,rfl⟩ (by (simp only [Fi,seval])) (by (simp only [RP,seval]))
theorem QB (ok:OkQ M) (I:MemI M) (g:Nat→BitVec 64) (pc:BitVec 64) (xt:BitVec 64) (s:I.σ) (hz:I.Z s) (hpc:¬ 8192#64≤pc) (w:BitVec 64) (hw:(I.mm.rd s pc).1=w) (he:(I.mm.rd s pc).2.1=none) (s1:I.σ) (hs:(I.mm.rd s pc).2.2=s1) (hop:AT w=28) (h2:w >>> 32 &&& 255#64=0#64) (a:BitVec 64) (ha:g (pF w 48) + BitVec.ofInt 64 (pN w)=a) (hlt:¬ 8192#64≤a) (e:Int) (he2:(I.mm.wr s1 a (g (pF w 44))).1=some e) :
 Af M 241 [AU g pc false xt,.ifc I.t (.ptr 0 [])] (I.E0 s) I.k0 (Q3 (Ao (AU g (pc + 1#64) false xt) (Cw (some e))) (I.E ((I.mm.wr s1 a (g (pF w 44))).2) I.k0) (I.k0 + 1)):=by
 refine Ac ok.okN.k241 rfl fun x hx=>?_
 refine Bl.up (N':=32) G2 ?_
 have a1:=Ai w 52
 have a2:=Ai w 48
 have a3:=Ai w 44
 have a4:=Ai w 40
 have hL:I.len s1≤100:=FC
 refine es 2000 ?_;(simp only [Oh,I.hdel0,hpc,seval])
 refine I.dynR0 [_,_] hz hpc Bx ?_
 rw [hw,he,hs]
 (simp only [J1,seval])
 have zz:=@Bb.eq_1;refine CI (Az ok.ok.toOkV w Aa h2) ?_
 (simp only [Hi,hop,ha,hlt,I.nil_in,I.idsE,seval])
 repeat refine sd ?_
 refine I.opyW [_,_] hL hlt Ak Bx ?_
 (simp only [he2,J1,Av,I.idsE,seval])
 repeat refine sd ?_
 exact I.ret [_,_] (q:=I.k0) ⟨Nat.le_refl _,by have:=I.hk;omega⟩ hx Ak Bx ⟨rfl,rfl,rfl⟩ (by (simp only [Fi,seval])) (by (simp only [RP,seval]))
theorem OO (ok:OkQ M) (I:MemI M) (g:Nat→BitVec 64) (pc:BitVec 64) (xt:BitVec 64) (s:I.σ) (hz:I.Z s) (hpc:¬ 8192#64≤pc) (w:BitVec 64) (hw:(I.mm.rd s pc).1=w) (he:(I.mm.rd s pc).2.1=none) (s1:I.σ) (hs:(I.mm.rd s pc).2.2=s1) (op:Nat) (ho:op=29 ∨ op=30 ∨ op=31 ∨ op=32 ∨ op=33) (hop:AT w=op) (h2:w >>> 32 &&& 255#64=0#64) :
 Af M 241 [AU g pc false xt,.ifc I.t (.ptr 0 [])] (I.E0 s) I.k0 (Q3 (Ao ((Vx op ⟨g,pc,false,xt⟩ (pF w 52) (pF w 48) (BitVec.ofInt 64 (pN w))).v) (Cw (none))) (I.E (s1) I.k0) (I.k0 + 1)):=by
 refine Ac ok.okN.k241 rfl fun x hx=>?_
 refine Bl.up (N':=32) G2 ?_
 have a1:=Ai w 52
 have a2:=Ai w 48
 have a3:=Ai w 44
 have a4:=Ai w 40
 have hL:I.len s1≤100:=FC
 have d1:((op:Int)=0)=False:=eq_false Aa
 have d2:((op:Int) < 26)=False:=eq_false Aa
 have d3:((op:Int)=26)=False:=eq_false Aa
 have d4:((op:Int)=27)=False:=eq_false Aa
 have d5:((op:Int)=28)=False:=eq_false Aa
 have d6:((op:Int) < 34)=True:=eq_true Aa
 refine es 2000 ?_;(simp only [Oh,I.hdel0,hpc,seval])
 refine I.dynR0 [_,_] hz hpc Bx ?_
 rw [hw,he,hs]
 (simp only [J1,seval])
 have zz:=@Bb.eq_1;refine CI (Az ok.ok.toOkV w Aa h2) ?_
 (simp only [Hi,hop,d1,d2,d3,d4,d5,d6,I.idsE,seval])
 repeat refine sd ?_
 have hJ:=P5 ok.okN op ho g pc false xt (pF w 52) (pF w 48) a1 a2 (BitVec.ofInt 64 (pN w))
 generalize Vx op ⟨g,pc,false,xt⟩ (pF w 52) (pF w 48) (BitVec.ofInt 64 (pN w))=j at *
 unfold Hd.v at hJ
 have zz:=@AU.eq_1;refine CI (hJ) ?_
 (simp only [G4,seval])
 exact I.ret [_,_] (q:=I.k0) ⟨Nat.le_refl _,by have:=I.hk;omega⟩ hx Ak Bx ⟨rfl,rfl,rfl⟩ (by (simp only [Fi,seval])) (by (simp only [RP,seval]))
theorem L6 {M:Seat} (okA:OkM M) (ok:OkO M) (s:WS) (l:List (Dg × Bool)) (f g:Nat→BitVec 64) (pc xt:BitVec 64) (hpc:¬ 8192#64≤pc) (w:BitVec 64) (hw:f pc.toNat=w) (hop:AT w=34) (h2:w >>> 32 &&& 255#64=0#64)
 (ha:(g (pF w 48)).toNat + 8≤8192) (hb:(g (pF w 44)).toNat + 4≤8192) :
 Af M 70 [.ptr 5 [],.ptr 0 []] (AF s .nils l ++ [(5,mach f g pc false xt)]) 6
  (Q3 .nili (AF (s.add (Pr.mk' (A6 fun j=>f ((g (pF w 48)).toNat + j)))) .nils l ++ [(5,mach (fun j=>if (g (pF w 44)).toNat≤j∧j < (g (pF w 44)).toNat + 4 then Jp (fun i=>(B9 (Pr.mk' (A6 fun j=>f ((g (pF w 48)).toNat + j))).at).at (8 * (j - (g (pF w 44)).toNat) + i)) 8 else f j) g (pc + 1#64) false xt)]) 6):=by
 refine Ac ok.k70 rfl fun x hx=>?_
 have hp:pc.toNat < 8192:=BM
 have a1:=Ai w 52
 have a2:=Ai w 48
 have a3:=Ai w 44
 have hO:=N9 okA ok s l f g pc xt _ _ ha hb
 generalize s.add (Pr.mk' (A6 fun j=>f ((g (pF w 48)).toNat + j)))=s' at *
 generalize B9 (Pr.mk' (A6 fun j=>f ((g (pF w 48)).toNat + j))).at=D at *
 generalize (fun j=>if (g (pF w 44)).toNat≤j∧j < (g (pF w 44)).toNat + 4 then Jp (fun i=>D.at (8 * (j - (g (pF w 44)).toNat) + i)) 8 else f j)=F at *
 refine es 2000 ?_;(simp only [P3,Qh,IK,hpc,hw,LZ,seval])
 repeat refine sd ?_
 have zz:=@Bb.eq_1;refine Gy (Az ok.toOkV w Aa h2) ?_
 (simp only [Hi,hop,seval])
 repeat refine sd ?_
 have zz:=aq4 IK @Bo @BV @C6;refine Pd [0,1,2,3,4,5] (hO) ?_
 (simp only [Gl,AR,seval])
 repeat refine sd ?_
 have zz:=aq2 @Bo @C6;exact Bg hx [0,1,2,3,4,5] ⟨rfl,rfl,rfl⟩
theorem Ls {M:Seat} (n:Nat) (q:Nat→Dg) (okA:OkM M) (ok:OkO M) (w:WS) (l:List (Dg × Bool)) (f g:Nat→BitVec 64) (pc xt:BitVec 64) (a b:BitVec 64) (ha:a.toNat + 8≤8192) (hb:b.toNat + 4≤8192) :
 Af M 217 [.ptr 5 [],.ptr 0 [],.int .i64 34,W a,W b] (AF w (.sl 6 [] 0 n 32) l ++ [(5,mach f g pc false xt),(6,.ar 32 n fun i=>dg (q i))]) 7
  (Q3 (.bool true) (AF (w.add (Pr.mk' (A6 fun j=>f (a.toNat + j)))) (.sl 6 [] 0 n 32) l ++ [(5,mach (fun j=>if b.toNat≤j∧j < b.toNat + 4 then Jp (fun i=>(B9 (Pr.mk' (A6 fun j=>f (a.toNat + j))).at).at (8 * (j - b.toNat) + i)) 8 else f j) g pc false xt),(6,.ar 32 n fun i=>dg (q i))]) 7):=by
 refine Ac ok.k217 rfl fun x hx=>?_
 have h1:(decide (a≤8192#64) && decide (8#64≤8192#64 - a))=true:=by
  have:a.toNat≤8192:=Aa
  simp only [Lao,decide_eq_true_eq];omega
 have h2:(decide (b≤8192#64) && decide (4#64≤8192#64 - b))=true:=by
  have:b.toNat≤8192:=Aa
  simp only [Lao,decide_eq_true_eq];omega
 refine es 2000 ?_;(simp only [Li,Nc,Gl,seval])
 refine Ah (AY ok a 8#64) ?_
 (simp only [h1,LZ,seval])
 refine Ah (AY ok b 4#64) ?_
 (simp only [h2,LZ,seval])
 have e8:(a + 8#64).toNat=a.toNat + 8:=Ajs
 rw [e8,Nat.add_sub_cancel_left]
 repeat refine sd ?_
 refine AZ ?_
 refine es 2000 ?_
 (simp only [BA,seval])
 repeat refine sd ?_
 refine Gh (CX okA ok (f (a.toNat + 0))) ?_
 (simp only [BA,seval])
 repeat refine sd ?_
 have w1:IntKind.i64.wrap 1=1:=Ak
 rw [w1]
 refine Ag (σ:=Nat) (fun i=>1≤i∧i≤8) (fun i=>fr 94 [(0,.ptr 5 []),(1,.ptr 0 []),(2,.int .i64 34),(4,W b),(12,W 4#64),(13,.sl 7 [] 0 (8 * i) 1),(43,.sl 5 [Stp.f 0] a.toNat 8 1),(44,.int .i64 8),(45,.int .i64 i)])
  (fun i=>AF w (.sl 6 [] 0 n 32) l ++ [(5,mach f g pc false xt),(6,.ar 32 n fun i=>dg (q i)),(7,.ar 1 (8 * i) fun j=>B (A6 (fun j=>f (a.toNat + j)) j))]) (fun _=>8) (fun i=>8 - i) 1 Aa ?_ ?_
 ·refine Aj.fr [0,1,2,3,4,5,6,519] [] hx Ax Ak ?_ ?_
  ·simp only [LY,seval]
  ·simp only [IK,Ik,seval]
   intro i hi
   have q1:i / 8=0:=Aa
   have q2:i % 8=i:=Aa
   simp only [A6,q1,q2,Nat.add_zero]
 ·rintro i ⟨hi1,hi⟩
  refine es 2000 ?_
  by_cases h8:i=8
  ·subst h8
   (simp only [Gl,seval])
   repeat refine sd ?_
   have hP:∀ j,j < 64→(Pr.mk' (A6 fun j=>f (a.toNat + j))).at j=A6 (fun j=>f (a.toNat + j)) j:=fun j hj=>Pr.at_mk' _ _ hj
   generalize Pr.mk' (A6 fun j=>f (a.toNat + j))=P at *
   have hA:Af M 212 [.ptr 0 [],At P] _ _ _:=UO okA ok.toOkS w P n
   generalize hw':w.add P=w' at *
   clear hw'
   generalize B9 P.at=D at *
   refine Xi [0,1,2,3,4,6] [0,1,2,3] (hA) (by constructor <;> (try simp only [Fo,Nw,At,CF,seval]) <;> first | exact q1 | (exact fun j hj=>(hP j hj).symm)) (by simp only [Fo,Nw,At,C6,LX]) ?_
   (simp only [Gw,Fo,Nw,AR,seval])
   refine Ag (σ:=Nat) (fun i=>i≤4) (fun i=>fr 94 [(0,.ptr 5 []),(4,W b),(16,.sl 8 [] 0 32 1),(77,W 4#64),(78,W (BitVec.ofNat 64 i))])
    (fun i=>AF w' (.sl 6 [] 0 n 32) l ++ [(5,mach (fun j=>if b.toNat≤j∧j < b.toNat + i then Jp (fun i=>D.at (8 * (j - b.toNat) + i)) 8 else f j) g pc false xt),(6,.ar 32 n fun i=>dg (q i)),(8,dg D)]) (fun _=>9) (fun i=>4 - i) 0 Aa ?_ ?_
   ·refine Aj.fr [0,1,2,3,4,5,6,7,200] [] hx Ax Ak ?_ ?_
    ·simp only [LY,seval]
    ·simp only [IK,Ik,seval]
     exact fun i _=>(if_neg Aa).symm
   ·intro i hi
    refine es 2000 ?_
    by_cases h4:i=4
    ·subst h4
     (simp only [Gl,seval])
     have zz:=Laa;exact Bg hx [0,1,2,3,4,5,6] ⟨rfl,rfl,rfl⟩
    ·have t1:(BitVec.ofNat 64 i).toNat=i:=HG
     have d0:(BitVec.ofNat 64 i < 4#64)=True:=eq_true (by rw [BitVec.lt_def,t1];show i < 4;omega)
     have t2:(8#64 * BitVec.ofNat 64 i).toNat=8 * i:=Q1
     have t3:(b + BitVec.ofNat 64 i).toNat=b.toNat + i:=U9
     have t4:BitVec.ofNat 64 i + 1#64=BitVec.ofNat 64 (i + 1):=TC
     (simp only [d0,t2,t3,t4,Gl,seval])
     repeat refine sd ?_
     refine Y9 (Dh ok (32 - 8 * i) Aa (fun j=>D.at (8 * i + j))) (by (try simp only [dg,CF,seval]) <;> first | exact q1 | ((show 8 * i + (32 - 8 * i)≤32;omega))) (by simp only [dg,C6,LX]) ?_
     (simp only [t2,t3,t4,BA,seval])
     repeat refine sd ?_
     refine ⟨i + 1,by omega,by omega,?_⟩
     refine Aj.fr [0,1,2,3,4,5,6,7,8] [] hx Ax Ak ?_ ?_
     ·simp only [LY,seval]
     ·simp only [Ik,seval]
      intro q hq
      by_cases e:q=b.toNat + i
      ·subst e
       rw [if_pos rfl,if_pos Aa,Nat.add_sub_cancel_left];simp only [W,LY,seval]
      ·rw [if_neg e]
       by_cases e2:b.toNat≤q∧q < b.toNat + i
       ·rw [if_pos Aa,if_pos e2];simp only [W,LY,seval]
       ·rw [if_neg Aa,if_neg e2];simp only [W,LY,seval]
  ·have d0:((i:Int) < 8)=True:=eq_true Aa
   have w0:IntKind.i64.wrap ((i:Int) + 1)=((i + 1:Nat):Int):=A9
   have n0:(0:Int)≤(i:Int):=Aa
   (simp only [d0,w0,Gl,seval])
   repeat refine sd ?_
   have zz:=@C6;refine Fl [7] (CZ okA ok (8 * i) Aa (A6 fun j=>f (a.toNat + j)) (f (a.toNat + i))) ?_
   (simp only [BA,w0,seval])
   repeat refine sd ?_
   refine ⟨i + 1,by omega,by omega,by omega,?_⟩
   have e88:8 * (i + 1)=8 * i + 8:=Aa
   rw [e88]
   refine Aj.fr [0,1,2,3,4,5,6,104] [] hx Ax Ak ?_ ?_
   ·simp only [LY,seval]
   ·simp only [Ik,seval]
    intro q hq
    by_cases e:q < 8 * i
    ·rw [if_pos e]
    ·have e1:q / 8=i:=Aa
     have e2:q % 8=q - 8 * i:=Aa
     rw [if_neg e,A6,e1,e2]
theorem Ks {M:Seat} (n:Nat) (q:Nat→Dg) (okA:OkM M) (ok:OkO M) (s:WS) (l:List (Dg × Bool)) (f g:Nat→BitVec 64) (pc xt:BitVec 64) (hpc:¬ 8192#64≤pc) (w:BitVec 64) (hw:f pc.toNat=w) (hop:AT w=34) (h2:w >>> 32 &&& 255#64=0#64)
 (ha:(g (pF w 48)).toNat + 8≤8192) (hb:(g (pF w 44)).toNat + 4≤8192) :
 Af M 70 [.ptr 5 [],.ptr 0 []] (AF s (.sl 6 [] 0 n 32) l ++ [(5,mach f g pc false xt),(6,.ar 32 n fun i=>dg (q i))]) 7
  (Q3 .nili (AF (s.add (Pr.mk' (A6 fun j=>f ((g (pF w 48)).toNat + j)))) (.sl 6 [] 0 n 32) l ++ [(5,mach (fun j=>if (g (pF w 44)).toNat≤j∧j < (g (pF w 44)).toNat + 4 then Jp (fun i=>(B9 (Pr.mk' (A6 fun j=>f ((g (pF w 48)).toNat + j))).at).at (8 * (j - (g (pF w 44)).toNat) + i)) 8 else f j) g (pc + 1#64) false xt),(6,.ar 32 n fun i=>dg (q i))]) 7):=by
 refine Ac ok.k70 rfl fun x hx=>?_
 have hp:pc.toNat < 8192:=BM
 have a1:=Ai w 52
 have a2:=Ai w 48
 have a3:=Ai w 44
 have hO:=Ls n q okA ok s l f g pc xt _ _ ha hb
 generalize s.add (Pr.mk' (A6 fun j=>f ((g (pF w 48)).toNat + j)))=s' at *
 generalize B9 (Pr.mk' (A6 fun j=>f ((g (pF w 48)).toNat + j))).at=D at *
 generalize (fun j=>if (g (pF w 44)).toNat≤j∧j < (g (pF w 44)).toNat + 4 then Jp (fun i=>D.at (8 * (j - (g (pF w 44)).toNat) + i)) 8 else f j)=F at *
 refine es 2000 ?_;(simp only [P3,Qh,IK,hpc,hw,LZ,seval])
 repeat refine sd ?_
 have zz:=@Bb.eq_1;refine Gy (Az ok.toOkV w Aa h2) ?_
 (simp only [Hi,hop,seval])
 repeat refine sd ?_
 have zz:=aq2 IK GM;refine Pd [0,1,2,3,4,5,6] (hO) ?_
 (simp only [Gl,AR,seval])
 repeat refine sd ?_
 have zz:=Laa;exact Bg hx [0,1,2,3,4,5,6] ⟨rfl,rfl,rfl⟩
variable {M:Seat}
def CW:Option Pr→V
 | some p=>Ao (At p) .nili
 | none=>Ao (At Pr.zero) (.ifc 74 (.int .i64 14))
theorem HE (ok:OkO M) (w:WS) (l:List (Dg × Bool)) (h:Dg) (o:Option Pr) (ho:Dv h w.pres=o) (hn:Dv h l=none ∨ Dv h l=some false) :
 Af M 328 [.ptr 0 [],dg h] (AF w .nils l) 5 (Q3 (CW o) (AF w (.sl 5 [] 0 1 32) (CG h true l) ++ [(5,.ar 32 1 fun _=>dg h)]) 6):=by
 have hsv:∀ l:List (Dg × Bool),Bv V.bool false l=Cp l:=fun _=>rfl
 refine Ac ok.k328 rfl fun x hx=>?_
 cases o <;> rcases hn with hn | hn
 all_goals refine es 2000 ?_;(simp only [Qo,Uu,AF,Nw,Cp,ho,hn,BA,seval])
 all_goals refine Aq.mk hx [0,1,2,3,4,773] [] (CW _) (AF w (.sl 5 [] 0 1 32) (CG h true l) ++ [(5,.ar 32 1 fun _=>dg h)]) 6 Ak (by simp only [Tp,Gw,IY,seval]) (by simp only [Tp,CW,Gw,IY,seval];simp only [VE,CF,seval];try exact fun _ _=>rfl) ?_ ⟨rfl,rfl,rfl⟩
 all_goals simp only [G0,hsv,Bo,CF,seval]
 all_goals intro i hi
 all_goals obtain rfl:i=0:=Aa
 all_goals rw [if_pos rfl]
 all_goals simp only [dg,LY,seval]
theorem HX (ok:OkO M) (w:WS) (n:Nat) (hn40:n < 1099511627776) (q:Nat→Dg) (l:List (Dg × Bool)) (h:Dg) (o:Option Pr) (ho:Dv h w.pres=o) (hn:Dv h l=none ∨ Dv h l=some false) :
 Af M 328 [.ptr 0 [],dg h] (AF w (.sl 5 [] 0 n 32) l ++ [(5,.ar 32 n fun i=>dg (q i))]) 6 (Q3 (CW o) (AF w (.sl 6 [] 0 (n + 1) 32) (CG h true l) ++ [(6,.ar 32 (n + 1) fun i=>dg (if i < n then q i else h))]) 7):=by
 have hsv:∀ l:List (Dg × Bool),Bv V.bool false l=Cp l:=fun _=>rfl
 refine Ac ok.k328 rfl fun x hx=>?_
 cases o <;> rcases hn with hn | hn
 all_goals refine es 2000 ?_;(simp only [Qo,Uu,G0,Cp,ho,hn,BA,seval])
 all_goals repeat refine sd ?_
 all_goals refine Aq.mk hx [0,1,2,3,4,5,774] [] (CW _) (AF w (.sl 6 [] 0 (n + 1) 32) (CG h true l) ++ [(6,.ar 32 (n + 1) fun i=>dg (if i < n then q i else h))]) 7 Ak (by simp only [Tp,Gw,IY,seval]) (by simp only [Tp,CW,Gw,IY,seval];simp only [VE,CF,seval];try exact fun _ _=>rfl) ?_ ⟨rfl,rfl,rfl⟩
 all_goals simp only [G0,hsv,Bo,CF,seval]
 all_goals intro i hi
 all_goals by_cases hin:i < n
 all_goals try (rw [if_pos hin,if_pos hin];simp only [dg,LY,seval];done)
 all_goals (rw [if_neg hin,if_neg hin,if_pos Aa];simp only [dg,LY,seval])
theorem Hs (ok:OkO M) (w:WS)  (l:List (Dg × Bool)) (h:Dg) (o:Option Pr) (ho:Dv h w.pres=o) (hn:Dv h l=some true) :
 Af M 328 [.ptr 0 [],dg h] (AF w .nils l) 5 (Q3 (CW o) (AF w .nils l) 5):=by
 have hsv:∀ l:List (Dg × Bool),Bv V.bool false l=Cp l:=fun _=>rfl
 refine Ac ok.k328 rfl fun x hx=>?_
 cases o
 all_goals refine es 2000 ?_;(simp only [Qo,Uu,G0,Cp,ho,hn,BA,seval])
 all_goals refine Aq.mk hx [0,1,2,3,4] [] (CW _) (AF w .nils l) 5 Ak (by simp only [Tp,Gw,IY,seval]) (by simp only [Tp,CW,Gw,IY,seval];simp only [VE,CF,seval];try exact fun _ _=>rfl) ?_ ⟨rfl,rfl,rfl⟩
 all_goals simp only [G0,hsv,Ik,seval]
theorem HJ (ok:OkO M) (w:WS) (n:Nat) (q:Nat→Dg) (l:List (Dg × Bool)) (h:Dg) (o:Option Pr) (ho:Dv h w.pres=o) (hn:Dv h l=some true) :
 Af M 328 [.ptr 0 [],dg h] (AF w (.sl 5 [] 0 n 32) l ++ [(5,.ar 32 n fun i=>dg (q i))]) 6 (Q3 (CW o) (AF w (.sl 5 [] 0 n 32) l ++ [(5,.ar 32 n fun i=>dg (q i))]) 6):=by
 have hsv:∀ l:List (Dg × Bool),Bv V.bool false l=Cp l:=fun _=>rfl
 refine Ac ok.k328 rfl fun x hx=>?_
 cases o
 all_goals refine es 2000 ?_;(simp only [Qo,Uu,G0,Cp,ho,hn,BA,seval])
 all_goals refine Aq.mk hx [0,1,2,3,4,5] [] (CW _) (AF w (.sl 5 [] 0 n 32) l ++ [(5,.ar 32 n fun i=>dg (q i))]) 6 Ak (by simp only [Tp,Gw,IY,seval]) (by simp only [Tp,CW,Gw,IY,seval];simp only [VE,CF,seval];try exact fun _ _=>rfl) ?_ ⟨rfl,rfl,rfl⟩
 all_goals simp only [G0,hsv,Ik,seval]
end Mv
