/- A part. -/
import Derived.Test.YtlfkjfonpacelaaGreatDoorFF
set_option linter.all false
set_option maxRecDepth 20000
set_option maxHeartbeats 4000000
namespace Mv
open Go
variable {M:Seat}
structure OkQ (M:Seat):Prop where
 okA:OkM M
 ok:OkO M
 okP:OkP M
 okN:OkNx M
theorem Aw (e:Int):B7 (some e) = .ifc 74 (.int .i64 e):=rfl
theorem B0:B7 none = .nili:=rfl
def Lbs:=(GM @Hd.v.eq_1 @LY @E9 @B0 @Aw)
def Ij:=(C4 @AH @List.nil_append.{0} @B0)
def PJ:=(XK @Hd.stop.eq_1 @Hd.v.eq_1 @LY @E9 @B0 @Aw @NM @FI.eq_1)
theorem pfl (pc:BitVec 64) (h:¬ 8192#64≤pc):pc.toNat < 8192:=by rw [BitVec.le_def] at h;simpa using h
theorem KG (ok:OkQ M) (I:MemI M) (g:Nat→BitVec 64) (pc:BitVec 64) (xt:BitVec 64) (s:I.σ) :
 Ag M 241 [AM g pc true xt,.ifc I.t (.ptr 0 [])] (I.E0 s) I.k0 (Q3 (Ah (AM g pc true xt) .nili) (I.E0 s) (I.k0 + 1)):=by
 refine Ab ok.okN.k241 rfl fun x hx=>?_
 refine Bm.up (N':=32) F9 ?_
 refine es 2000 ?_;(simp only [M3,I.hdel0,seval])
 exact I.ret0 [_,_] (n:=100) hx B4 ⟨rfl,rfl,rfl⟩ (by (simp only [E9,seval])) (by (simp only [E9,seval,LY])) Am
theorem Ji (ok:OkQ M) (I:MemI M) (g:Nat→BitVec 64) (pc:BitVec 64) (xt:BitVec 64) (s:I.σ) (hpc:8192#64≤pc) :
 Ag M 241 [AM g pc false xt,.ifc I.t (.ptr 0 [])] (I.E0 s) I.k0 (Q3 (Ah (AM g pc true Bn) .nili) (I.E0 s) (I.k0 + 1)):=by
 refine Ab ok.okN.k241 rfl fun x hx=>?_
 refine Bm.up (N':=32) F9 ?_
 refine es 2000 ?_;(simp only [M3,I.hdel0,hpc,seval])
 have zz:=@AM.eq_1;refine Ce (Bs ok.okN g pc false xt Bn) ?_
 (simp only [CR,seval])
 exact I.ret0 [_,_] (n:=100) hx B4 ⟨rfl,rfl,rfl⟩ (by (simp only [E9,seval])) (by (simp only [E9,seval,LY])) Am
theorem P1 (ok:OkQ M) (I:MemI M) (g:Nat→BitVec 64) (pc:BitVec 64) (xt:BitVec 64) (s:I.σ) (hz:I.Z s) (hpc:¬ 8192#64≤pc) (e:Int) (he:(I.mm.rd s pc).2.1=some e) :
 Ag M 241 [AM g pc false xt,.ifc I.t (.ptr 0 [])] (I.E0 s) I.k0 (Q3 (Ah (AM g pc false xt) (B7 (some e))) (I.E (I.mm.rd s pc).2.2 I.k0) (I.k0 + 1)):=by
 refine Ab ok.okN.k241 rfl fun x hx=>?_
 refine Bm.up (N':=32) F9 ?_
 refine es 2000 ?_;(simp only [M3,I.hdel0,hpc,seval])
 refine I.dynR0 [_,_] hz hpc B4 ?_
 (simp only [he,Aw,AH,List.nil_append,seval])
 exact I.ret [_,_] (q:=I.k0) ⟨Nat.le_refl _,by have:=I.hk;omega⟩ hx Am B4 ⟨rfl,rfl,rfl⟩ (by (simp only [E9,seval])) (by (simp only [E9,Aw,seval,LY]))
theorem RM (ok:OkQ M) (I:MemI M) (g:Nat→BitVec 64) (pc:BitVec 64) (xt:BitVec 64) (s:I.σ) (hz:I.Z s) (hpc:¬ 8192#64≤pc) (w:BitVec 64) (hw:(I.mm.rd s pc).1=w) (he:(I.mm.rd s pc).2.1=none) (s1:I.σ) (hs:(I.mm.rd s pc).2.2=s1) (h:¬ (CP w≤35∧w >>> 32 &&& 255#64=0#64)) :
 Ag M 241 [AM g pc false xt,.ifc I.t (.ptr 0 [])] (I.E0 s) I.k0 (Q3 (Ah (AM g pc true Bn) (B7 (none))) (I.E (s1) I.k0) (I.k0 + 1)):=by
 refine Ab ok.okN.k241 rfl fun x hx=>?_
 refine Bm.up (N':=32) F9 ?_
 have a1:=A5 w 52
 have a2:=A5 w 48
 have a3:=A5 w 44
 have a4:=A5 w 40
 have hL:I.len s1≤100:=EY
 refine es 2000 ?_;(simp only [M3,I.hdel0,hpc,seval])
 refine I.dynR0 [_,_] hz hpc B4 ?_
 rw [hw,he,hs]
 (simp only [Ij,seval])
 refine Ak (L8 ok.ok.toOkV w h) ?_
 (simp only [LZ,seval])
 repeat refine sd ?_
 have zz:=@AM.eq_1;refine Ce (Bs ok.okN g pc false xt Bn) ?_
 (simp only [CR,seval])
 exact I.ret [_,_] (q:=I.k0) ⟨Nat.le_refl _,by have:=I.hk;omega⟩ hx Am B4 ⟨rfl,rfl,rfl⟩ (by (simp only [E9,seval])) (by (simp only [PJ,seval]))
theorem Nm (ok:OkQ M) (I:MemI M) (g:Nat→BitVec 64) (pc:BitVec 64) (xt:BitVec 64) (s:I.σ) (hz:I.Z s) (hpc:¬ 8192#64≤pc) (w:BitVec 64) (hw:(I.mm.rd s pc).1=w) (he:(I.mm.rd s pc).2.1=none) (s1:I.σ) (hs:(I.mm.rd s pc).2.2=s1) (hop:CP w=0) (h2:w >>> 32 &&& 255#64=0#64) :
 Ag M 241 [AM g pc false xt,.ifc I.t (.ptr 0 [])] (I.E0 s) I.k0 (Q3 (Ah (AM g pc true (g (pF w 48))) (B7 (none))) (I.E (s1) I.k0) (I.k0 + 1)):=by
 refine Ab ok.okN.k241 rfl fun x hx=>?_
 refine Bm.up (N':=32) F9 ?_
 have a1:=A5 w 52
 have a2:=A5 w 48
 have a3:=A5 w 44
 have a4:=A5 w 40
 have hL:I.len s1≤100:=EY
 refine es 2000 ?_;(simp only [M3,I.hdel0,hpc,seval])
 refine I.dynR0 [_,_] hz hpc B4 ?_
 rw [hw,he,hs]
 (simp only [Ij,seval])
 have zz:=@BB.eq_1;refine Ce (AO ok.ok.toOkV w Aa h2) ?_
 (simp only [Mx,hop,I.idsE,seval])
 repeat refine sd ?_
 have zz:=@AM.eq_1;refine G0 (Bs ok.okN g pc false xt (g (pF w 48))) ?_
 (simp only [CR,I.idsE,seval])
 exact I.ret [_,_] (q:=I.k0) ⟨Nat.le_refl _,by have:=I.hk;omega⟩ hx Am B4 ⟨rfl,rfl,rfl⟩ (by (simp only [E9,seval])) (by (simp only [PJ,seval]))
theorem RH (ok:OkQ M) (I:MemI M) (g:Nat→BitVec 64) (pc:BitVec 64) (xt:BitVec 64) (s:I.σ) (hz:I.Z s) (hpc:¬ 8192#64≤pc) (w:BitVec 64) (hw:(I.mm.rd s pc).1=w) (he:(I.mm.rd s pc).2.1=none) (s1:I.σ) (hs:(I.mm.rd s pc).2.2=s1) (hop:CP w=26) (h2:w >>> 32 &&& 255#64=0#64) :
 Ag M 241 [AM g pc false xt,.ifc I.t (.ptr 0 [])] (I.E0 s) I.k0 (Q3 (Ah (AM (FI g (pF w 52) (BitVec.ofInt 64 (pN w))) (pc + 1#64) false xt) (B7 (none))) (I.E (s1) I.k0) (I.k0 + 1)):=by
 refine Ab ok.okN.k241 rfl fun x hx=>?_
 refine Bm.up (N':=32) F9 ?_
 have a1:=A5 w 52
 have a2:=A5 w 48
 have a3:=A5 w 44
 have a4:=A5 w 40
 have hL:I.len s1≤100:=EY
 refine es 2000 ?_;(simp only [M3,I.hdel0,hpc,seval])
 refine I.dynR0 [_,_] hz hpc B4 ?_
 rw [hw,he,hs]
 (simp only [Ij,seval])
 have zz:=@BB.eq_1;refine Ce (AO ok.ok.toOkV w Aa h2) ?_
 (simp only [Mx,hop,I.idsE,seval])
 repeat refine sd ?_
 exact I.ret [_,_] (q:=I.k0) ⟨Nat.le_refl _,by have:=I.hk;omega⟩ hx Am B4 ⟨rfl,rfl,rfl⟩ (by (simp only [E9,seval])) (by (simp only [PJ,seval]))
theorem LH (ok:OkQ M) (I:MemI M) (g:Nat→BitVec 64) (pc:BitVec 64) (xt:BitVec 64) (s:I.σ) (hz:I.Z s) (hpc:¬ 8192#64≤pc) (w:BitVec 64) (hw:(I.mm.rd s pc).1=w) (he:(I.mm.rd s pc).2.1=none) (s1:I.σ) (hs:(I.mm.rd s pc).2.2=s1) (op:Nat) (h1:1≤op) (h25:op≤25) (hop:CP w=op) (h2:w >>> 32 &&& 255#64=0#64) :
 Ag M 241 [AM g pc false xt,.ifc I.t (.ptr 0 [])] (I.E0 s) I.k0 (Q3 (Ah (AM (FI g (pF w 52) (apW op (g (pF w 48)) (g (pF w 44)) (g (pF w 40)))) (pc + 1#64) false xt) (B7 (none))) (I.E (s1) I.k0) (I.k0 + 1)):=by
 refine Ab ok.okN.k241 rfl fun x hx=>?_
 refine Bm.up (N':=32) F9 ?_
 have a1:=A5 w 52
 have a2:=A5 w 48
 have a3:=A5 w 44
 have a4:=A5 w 40
 have hL:I.len s1≤100:=EY
 have d1:((op:Int)=0)=False:=eq_false Aa
 have d2:((op:Int) < 26)=True:=eq_true Aa
 refine es 2000 ?_;(simp only [M3,I.hdel0,hpc,seval])
 refine I.dynR0 [_,_] hz hpc B4 ?_
 rw [hw,he,hs]
 (simp only [Ij,seval])
 have zz:=@BB.eq_1;refine Ce (AO ok.ok.toOkV w Aa h2) ?_
 (simp only [Mx,hop,d1,d2,I.idsE,seval])
 repeat refine sd ?_
 refine Bq (Qa ok.okP op h1 h25 (g (pF w 48)) (g (pF w 44)) (g (pF w 40))) ?_
 (simp only [AH,I.idsE,seval])
 repeat refine sd ?_
 exact I.ret [_,_] (q:=I.k0) ⟨Nat.le_refl _,by have:=I.hk;omega⟩ hx Am B4 ⟨rfl,rfl,rfl⟩ (by (simp only [E9,seval])) (by (simp only [PJ,seval]))
theorem Py (ok:OkQ M) (I:MemI M) (g:Nat→BitVec 64) (pc:BitVec 64) (xt:BitVec 64) (s:I.σ) (hz:I.Z s) (hpc:¬ 8192#64≤pc) (w:BitVec 64) (hw:(I.mm.rd s pc).1=w) (he:(I.mm.rd s pc).2.1=none) (s1:I.σ) (hs:(I.mm.rd s pc).2.2=s1) (hop:CP w=27) (h2:w >>> 32 &&& 255#64=0#64) (a:BitVec 64) (ha:g (pF w 48) + BitVec.ofInt 64 (pN w)=a) (hlt:8192#64≤a) :
 Ag M 241 [AM g pc false xt,.ifc I.t (.ptr 0 [])] (I.E0 s) I.k0 (Q3 (Ah (AM g pc true Bn) (B7 (none))) (I.E (s1) I.k0) (I.k0 + 1)):=by
 refine Ab ok.okN.k241 rfl fun x hx=>?_
 refine Bm.up (N':=32) F9 ?_
 have a1:=A5 w 52
 have a2:=A5 w 48
 have a3:=A5 w 44
 have a4:=A5 w 40
 have hL:I.len s1≤100:=EY
 refine es 2000 ?_;(simp only [M3,I.hdel0,hpc,seval])
 refine I.dynR0 [_,_] hz hpc B4 ?_
 rw [hw,he,hs]
 (simp only [Ij,seval])
 have zz:=@BB.eq_1;refine Ce (AO ok.ok.toOkV w Aa h2) ?_
 (simp only [Mx,hop,ha,hlt,I.idsE,seval])
 repeat refine sd ?_
 have zz:=@AM.eq_1;refine Ce (Bs ok.okN g pc false xt Bn) ?_
 (simp only [CR,seval])
 exact I.ret [_,_] (q:=I.k0) ⟨Nat.le_refl _,by have:=I.hk;omega⟩ hx Am B4 ⟨rfl,rfl,rfl⟩ (by (simp only [E9,seval])) (by (simp only [PJ,seval]))
theorem OC (ok:OkQ M) (I:MemI M) (g:Nat→BitVec 64) (pc:BitVec 64) (xt:BitVec 64) (s:I.σ) (hz:I.Z s) (hpc:¬ 8192#64≤pc) (w:BitVec 64) (hw:(I.mm.rd s pc).1=w) (he:(I.mm.rd s pc).2.1=none) (s1:I.σ) (hs:(I.mm.rd s pc).2.2=s1) (hop:CP w=28) (h2:w >>> 32 &&& 255#64=0#64) (a:BitVec 64) (ha:g (pF w 48) + BitVec.ofInt 64 (pN w)=a) (hlt:8192#64≤a) :
 Ag M 241 [AM g pc false xt,.ifc I.t (.ptr 0 [])] (I.E0 s) I.k0 (Q3 (Ah (AM g pc true Bn) (B7 (none))) (I.E (s1) I.k0) (I.k0 + 1)):=by
 refine Ab ok.okN.k241 rfl fun x hx=>?_
 refine Bm.up (N':=32) F9 ?_
 have a1:=A5 w 52
 have a2:=A5 w 48
 have a3:=A5 w 44
 have a4:=A5 w 40
 have hL:I.len s1≤100:=EY
 refine es 2000 ?_;(simp only [M3,I.hdel0,hpc,seval])
 refine I.dynR0 [_,_] hz hpc B4 ?_
 rw [hw,he,hs]
 (simp only [Ij,seval])
 have zz:=@BB.eq_1;refine Ce (AO ok.ok.toOkV w Aa h2) ?_
 (simp only [Mx,hop,ha,hlt,I.idsE,seval])
 repeat refine sd ?_
 have zz:=@AM.eq_1;refine Ce (Bs ok.okN g pc false xt Bn) ?_
 (simp only [CR,seval])
 exact I.ret [_,_] (q:=I.k0) ⟨Nat.le_refl _,by have:=I.hk;omega⟩ hx Am B4 ⟨rfl,rfl,rfl⟩ (by (simp only [E9,seval])) (by (simp only [PJ,seval]))
theorem SC (ok:OkQ M) (I:MemI M) (g:Nat→BitVec 64) (pc:BitVec 64) (xt:BitVec 64) (s:I.σ) (hz:I.Z s) (hpc:¬ 8192#64≤pc) (w:BitVec 64) (hw:(I.mm.rd s pc).1=w) (he:(I.mm.rd s pc).2.1=none) (s1:I.σ) (hs:(I.mm.rd s pc).2.2=s1) (hop:CP w=27) (h2:w >>> 32 &&& 255#64=0#64) (a:BitVec 64) (ha:g (pF w 48) + BitVec.ofInt 64 (pN w)=a) (hlt:¬ 8192#64≤a) (he2:(I.mm.rd s1 a).2.1=none) :
 Ag M 241 [AM g pc false xt,.ifc I.t (.ptr 0 [])] (I.E0 s) I.k0 (Q3 (Ah (AM (FI g (pF w 52) (I.mm.rd s1 a).1) (pc + 1#64) false xt) (B7 (none))) (I.E ((I.mm.rd s1 a).2.2) I.k0) (I.k0 + 1)):=by
 refine Ab ok.okN.k241 rfl fun x hx=>?_
 refine Bm.up (N':=32) F9 ?_
 have a1:=A5 w 52
 have a2:=A5 w 48
 have a3:=A5 w 44
 have a4:=A5 w 40
 have hL:I.len s1≤100:=EY
 refine es 2000 ?_;(simp only [M3,I.hdel0,hpc,seval])
 refine I.dynR0 [_,_] hz hpc B4 ?_
 rw [hw,he,hs]
 (simp only [Ij,seval])
 have zz:=@BB.eq_1;refine Ce (AO ok.ok.toOkV w Aa h2) ?_
 (simp only [Mx,hop,ha,hlt,I.idsE,seval])
 repeat refine sd ?_
 refine I.opyR [_,_] hL hlt Am B4 ?_
 (simp only [he2,Ij,Aw,I.idsE,seval])
 repeat refine sd ?_
 exact I.ret [_,_] (q:=I.k0) ⟨Nat.le_refl _,by have:=I.hk;omega⟩ hx Am B4 ⟨rfl,rfl,rfl⟩ (by (simp only [E9,seval])) (by (simp only [PJ,seval]))
theorem PD (ok:OkQ M) (I:MemI M) (g:Nat→BitVec 64) (pc:BitVec 64) (xt:BitVec 64) (s:I.σ) (hz:I.Z s) (hpc:¬ 8192#64≤pc) (w:BitVec 64) (hw:(I.mm.rd s pc).1=w) (he:(I.mm.rd s pc).2.1=none) (s1:I.σ) (hs:(I.mm.rd s pc).2.2=s1) (hop:CP w=27) (h2:w >>> 32 &&& 255#64=0#64) (a:BitVec 64) (ha:g (pF w 48) + BitVec.ofInt 64 (pN w)=a) (hlt:¬ 8192#64≤a) (e:Int) (he2:(I.mm.rd s1 a).2.1=some e) :
 Ag M 241 [AM g pc false xt,.ifc I.t (.ptr 0 [])] (I.E0 s) I.k0 (Q3 (Ah (AM (FI g (pF w 52) (I.mm.rd s1 a).1) (pc + 1#64) false xt) (B7 (some e))) (I.E ((I.mm.rd s1 a).2.2) I.k0) (I.k0 + 1)):=by
 refine Ab ok.okN.k241 rfl fun x hx=>?_
 refine Bm.up (N':=32) F9 ?_
 have a1:=A5 w 52
 have a2:=A5 w 48
 have a3:=A5 w 44
 have a4:=A5 w 40
 have hL:I.len s1≤100:=EY
 refine es 2000 ?_;(simp only [M3,I.hdel0,hpc,seval])
 refine I.dynR0 [_,_] hz hpc B4 ?_
 rw [hw,he,hs]
 (simp only [Ij,seval])
 have zz:=@BB.eq_1;refine Ce (AO ok.ok.toOkV w Aa h2) ?_
 (simp only [Mx,hop,ha,hlt,I.idsE,seval])
 repeat refine sd ?_
 refine I.opyR [_,_] hL hlt Am B4 ?_
 (simp only [he2,Ij,Aw,I.idsE,seval])
 repeat refine sd ?_
 exact I.ret [_,_] (q:=I.k0) ⟨Nat.le_refl _,by have:=I.hk;omega⟩ hx Am B4 ⟨rfl,rfl,rfl⟩ (by (simp only [E9,seval])) (by (simp only [PJ,seval]))
theorem RB (ok:OkQ M) (I:MemI M) (g:Nat→BitVec 64) (pc:BitVec 64) (xt:BitVec 64) (s:I.σ) (hz:I.Z s) (hpc:¬ 8192#64≤pc) (w:BitVec 64) (hw:(I.mm.rd s pc).1=w) (he:(I.mm.rd s pc).2.1=none) (s1:I.σ) (hs:(I.mm.rd s pc).2.2=s1) (hop:CP w=28) (h2:w >>> 32 &&& 255#64=0#64) (a:BitVec 64) (ha:g (pF w 48) + BitVec.ofInt 64 (pN w)=a) (hlt:¬ 8192#64≤a) (he2:(I.mm.wr s1 a (g (pF w 44))).1=none) :
 Ag M 241 [AM g pc false xt,.ifc I.t (.ptr 0 [])] (I.E0 s) I.k0 (Q3 (Ah (AM g (pc + 1#64) false xt) (B7 (none))) (I.E ((I.mm.wr s1 a (g (pF w 44))).2) I.k0) (I.k0 + 1)):=by
 refine Ab ok.okN.k241 rfl fun x hx=>?_
 refine Bm.up (N':=32) F9 ?_
 have a1:=A5 w 52
 have a2:=A5 w 48
 have a3:=A5 w 44
 have a4:=A5 w 40
 have hL:I.len s1≤100:=EY
 refine es 2000 ?_;(simp only [M3,I.hdel0,hpc,seval])
 refine I.dynR0 [_,_] hz hpc B4 ?_
 rw [hw,he,hs]
 (simp only [Ij,seval])
 have zz:=@BB.eq_1;refine Ce (AO ok.ok.toOkV w Aa h2) ?_
 (simp only [Mx,hop,ha,hlt,I.nil_in,I.idsE,seval])
 repeat refine sd ?_
 refine I.opyW [_,_] hL hlt Am B4 ?_
 (simp only [he2,Ij,Aw,I.idsE,seval])
 repeat refine sd ?_
 exact I.ret [_,_] (q:=I.k0) ⟨Nat.le_refl _,by have:=I.hk;omega⟩ hx Am B4 ⟨rfl,rfl,rfl⟩ (by (simp only [E9,seval])) (by (simp only [PJ,seval]))
theorem Oo (ok:OkQ M) (I:MemI M) (g:Nat→BitVec 64) (pc:BitVec 64) (xt:BitVec 64) (s:I.σ) (hz:I.Z s) (hpc:¬ 8192#64≤pc) (w:BitVec 64) (hw:(I.mm.rd s pc).1=w) (he:(I.mm.rd s pc).2.1=none) (s1:I.σ) (hs:(I.mm.rd s pc).2.2=s1) (hop:CP w=28) (h2:w >>> 32 &&& 255#64=0#64) (a:BitVec 64) (ha:g (pF w 48) + BitVec.ofInt 64 (pN w)=a) (hlt:¬ 8192#64≤a) (e:Int) (he2:(I.mm.wr s1 a (g (pF w 44))).1=some e) :
 Ag M 241 [AM g pc false xt,.ifc I.t (.ptr 0 [])] (I.E0 s) I.k0 (Q3 (Ah (AM g (pc + 1#64) false xt) (B7 (some e))) (I.E ((I.mm.wr s1 a (g (pF w 44))).2) I.k0) (I.k0 + 1)):=by
 refine Ab ok.okN.k241 rfl fun x hx=>?_
 refine Bm.up (N':=32) F9 ?_
 have a1:=A5 w 52
 have a2:=A5 w 48
 have a3:=A5 w 44
 have a4:=A5 w 40
 have hL:I.len s1≤100:=EY
 refine es 2000 ?_;(simp only [M3,I.hdel0,hpc,seval])
 refine I.dynR0 [_,_] hz hpc B4 ?_
 rw [hw,he,hs]
 (simp only [Ij,seval])
 have zz:=@BB.eq_1;refine Ce (AO ok.ok.toOkV w Aa h2) ?_
 (simp only [Mx,hop,ha,hlt,I.nil_in,I.idsE,seval])
 repeat refine sd ?_
 refine I.opyW [_,_] hL hlt Am B4 ?_
 (simp only [he2,Ij,Aw,I.idsE,seval])
 repeat refine sd ?_
 exact I.ret [_,_] (q:=I.k0) ⟨Nat.le_refl _,by have:=I.hk;omega⟩ hx Am B4 ⟨rfl,rfl,rfl⟩ (by (simp only [E9,seval])) (by (simp only [PJ,seval]))
theorem Oc (ok:OkQ M) (I:MemI M) (g:Nat→BitVec 64) (pc:BitVec 64) (xt:BitVec 64) (s:I.σ) (hz:I.Z s) (hpc:¬ 8192#64≤pc) (w:BitVec 64) (hw:(I.mm.rd s pc).1=w) (he:(I.mm.rd s pc).2.1=none) (s1:I.σ) (hs:(I.mm.rd s pc).2.2=s1) (op:Nat) (ho:op=29 ∨ op=30 ∨ op=31 ∨ op=32 ∨ op=33) (hop:CP w=op) (h2:w >>> 32 &&& 255#64=0#64) :
 Ag M 241 [AM g pc false xt,.ifc I.t (.ptr 0 [])] (I.E0 s) I.k0 (Q3 (Ah ((TC op ⟨g,pc,false,xt⟩ (pF w 52) (pF w 48) (BitVec.ofInt 64 (pN w))).v) (B7 (none))) (I.E (s1) I.k0) (I.k0 + 1)):=by
 refine Ab ok.okN.k241 rfl fun x hx=>?_
 refine Bm.up (N':=32) F9 ?_
 have a1:=A5 w 52
 have a2:=A5 w 48
 have a3:=A5 w 44
 have a4:=A5 w 40
 have hL:I.len s1≤100:=EY
 have d1:((op:Int)=0)=False:=eq_false Aa
 have d2:((op:Int) < 26)=False:=eq_false Aa
 have d3:((op:Int)=26)=False:=eq_false Aa
 have d4:((op:Int)=27)=False:=eq_false Aa
 have d5:((op:Int)=28)=False:=eq_false Aa
 have d6:((op:Int) < 34)=True:=eq_true Aa
 refine es 2000 ?_;(simp only [M3,I.hdel0,hpc,seval])
 refine I.dynR0 [_,_] hz hpc B4 ?_
 rw [hw,he,hs]
 (simp only [Ij,seval])
 have zz:=@BB.eq_1;refine Ce (AO ok.ok.toOkV w Aa h2) ?_
 (simp only [Mx,hop,d1,d2,d3,d4,d5,d6,I.idsE,seval])
 repeat refine sd ?_
 have hJ:=MT ok.okN op ho g pc false xt (pF w 52) (pF w 48) a1 a2 (BitVec.ofInt 64 (pN w))
 generalize TC op ⟨g,pc,false,xt⟩ (pF w 52) (pF w 48) (BitVec.ofInt 64 (pN w))=j at *
 unfold Hd.v at hJ
 have zz:=@AM.eq_1;refine Ce (hJ) ?_
 (simp only [CR,seval])
 exact I.ret [_,_] (q:=I.k0) ⟨Nat.le_refl _,by have:=I.hk;omega⟩ hx Am B4 ⟨rfl,rfl,rfl⟩ (by (simp only [E9,seval])) (by (simp only [PJ,seval]))
def TS:Option Pr→V
 | some p=>Ah (Bk p) .nili
 | none=>Ah (Bk Pr.zero) (.ifc 74 (.int .i64 14))
theorem Q0 {a n:BitVec 64} (h:wi a n=true):a.toNat + n.toNat≤8192:=by
 unfold wi at h
 simp only [Bool.and_eq_true,decide_eq_true_eq,BitVec.le_def,BitVec.toNat_sub] at h
 have e:(8192#64).toNat=8192:=rfl
 rw [e] at h
 omega
end Mv
