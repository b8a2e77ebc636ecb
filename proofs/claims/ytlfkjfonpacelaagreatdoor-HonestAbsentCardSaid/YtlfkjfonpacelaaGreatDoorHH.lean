/- A part. -/
import Derived.Test.YtlfkjfonpacelaaGreatDoorHF
import Derived.Test.YtlfkjfonpacelaaGreatDoorHG
set_option linter.all false
set_option maxRecDepth 20000
set_option maxHeartbeats 4000000
namespace Mv
open Go
variable {M:Seat}
def NK:=(EH @LZ @Alk.eq_1 @Ani.eq_1 @By.eq_1)
structure Hd where
 g:Nat→BitVec 64
 pc:BitVec 64
 hl:Bool
 xt:BitVec 64
def Hd.v (h:Hd):V:=By h.g h.pc h.hl h.xt
def Hd.stop (h:Hd) (x:BitVec 64):Hd:=⟨h.g,h.pc,true,x⟩
def isI (w:BitVec 64):Bool:=decide (BP w≤35∧w >>> 32 &&& 255#64=0#64)
def Lk (op:Nat) (h:Hd) (d a:Nat) (to:BitVec 64):Hd :=
 if (op=30∧¬ h.g a=0#64) ∨ (op=31∧h.g a=0#64) then ⟨h.g,h.pc + 1#64,h.hl,h.xt⟩
 else if 8192#64≤(if op=33 then h.g a else to) then h.stop A9
 else ⟨if op=32 then IS h.g d (h.pc + 1#64) else h.g,if op=33 then h.g a else to,h.hl,h.xt⟩
section
variable {σ:Type} (m:Mm σ)
def PV (a:BitVec 64):Nat→Nat→σ→List (BitVec 64)→Option Int × σ × List (BitVec 64)
 | 0,_,s,l=>(none,s,l)
 | n + 1, i, s, l => match (m.rd s (a + BitVec.ofNat 64 i)).2.1 with
   | some e=>(some e,(m.rd s (a + BitVec.ofNat 64 i)).2.2,l)
   | none=>PV a n (i + 1) (m.rd s (a + BitVec.ofNat 64 i)).2.2 (l ++ [(m.rd s (a + BitVec.ofNat 64 i)).1])
def YD (a:BitVec 64) (f:Nat→BitVec 64):Nat→Nat→σ→Option Int × σ
 | 0,_,s=>(none,s)
 | n + 1, i, s => match (m.wr s (a + BitVec.ofNat 64 i) (f i)).1 with
   | some e=>(some e,(m.wr s (a + BitVec.ofNat 64 i) (f i)).2)
   | none=>YD a f n (i + 1) (m.wr s (a + BitVec.ofNat 64 i) (f i)).2
def YK (p:Nat→BitVec 8) (i:Nat):BitVec 64:=I8 (fun j=>p (8 * i + j)) 8
def D4 (l:List (BitVec 64)):Nat→BitVec 8:=AW fun j=>l.getD j 0#64
def Lh (h:Hd) (s:σ) (to:BitVec 64) (t:Nat) (p:Nat→BitVec 8):Hd × Option Int × σ :=
 match YD m to (YK p) t 0 s with
 | (some e,s')=>(h,some e,s')
 | (none,s')=>(⟨h.g,h.pc + 1#64,h.hl,h.xt⟩,none,s')
def YL (h:Hd) (s:σ) (to:BitVec 64) (d:Dg):Hd × Option Int × σ :=
 match m.pi s d with
 | (_,some e,s')=>(h,some e,s')
 | (p,none,s')=>Lh m h s' to 8 p.at
def Qp (op:Nat) (h:Hd) (s:σ) (a b:BitVec 64):Hd × Option Int × σ :=
 if (wi a (if op=35 then 4#64 else 8#64) && wi b (if op=35 then 8#64 else 4#64))=false then (h.stop A9,none,s)
 else match PV m a (if op=35 then 4 else 8) 0 s [] with
  | (some e,s',_)=>(h,some e,s')
  | (none, s', l) =>
    if op=34 then Lh m h s' b 4 (Cf (Pr.mk' (D4 l)).at).at
    else YL m h s' b (Dg.mk' (D4 l))
def M5 (h:Hd) (w:BitVec 64) (s:σ):Hd × Option Int × σ :=
 if isI w=false then (h.stop A9,none,s)
 else if BP w=0 then (h.stop (h.g (pF w 48)),none,s)
 else if BP w < 26 then (⟨IS h.g (pF w 52) (apW (BP w) (h.g (pF w 48)) (h.g (pF w 44)) (h.g (pF w 40))),h.pc + 1#64,h.hl,h.xt⟩,none,s)
 else if BP w=26 then (⟨IS h.g (pF w 52) (BitVec.ofInt 64 (pN w)),h.pc + 1#64,h.hl,h.xt⟩,none,s)
 else if BP w=27 ∨ BP w=28 then
  if 8192#64≤h.g (pF w 48) + BitVec.ofInt 64 (pN w) then (h.stop A9,none,s)
  else if BP w=27 then (⟨IS h.g (pF w 52) (m.rd s (h.g (pF w 48) + BitVec.ofInt 64 (pN w))).1,h.pc + 1#64,h.hl,h.xt⟩,(m.rd s (h.g (pF w 48) + BitVec.ofInt 64 (pN w))).2)
  else (⟨h.g,h.pc + 1#64,h.hl,h.xt⟩,m.wr s (h.g (pF w 48) + BitVec.ofInt 64 (pN w)) (h.g (pF w 44)))
 else if BP w < 34 then (Lk (BP w) h (pF w 52) (pF w 48) (BitVec.ofInt 64 (pN w)),none,s)
 else Qp m (BP w) h s (h.g (pF w 48)) (h.g (pF w 44))
def nx (h:Hd) (s:σ):Hd × Option Int × σ :=
 match (m.rd s h.pc).2.1 with
 | some e=>(h,some e,(m.rd s h.pc).2.2)
 | none=>M5 m h (m.rd s h.pc).1 (m.rd s h.pc).2.2
end
structure OkNx (M:Seat):Prop where
 k241:Ar M 241 Ani=true
 k346:Ar M 346 Amj=true
 k347:Ar M 347 An8=true
 k348:Ar M 348 Q8=true
 k448:Ar M 448 Ag6=true
theorem Bz (ok:OkNx M) (g:Nat→BitVec 64) (pc:BitVec 64) (hl:Bool) (xt e:BitVec 64) :
 Ae M 346 [By g pc hl xt,W e] [] 0 (Q3 (By g pc true e) [] 0):=by
 refine Ab ok.k346 rfl fun x hx=>?_
 refine es 2000 ?_;(simp only [Amj,Ajn,G8,seval])
 have zz:=@By.eq_1;exact Bu hx [] ⟨rfl,rfl,rfl⟩
theorem Bn (ok:OkNx M) (a b:BitVec 64) :
 Ae M 448 [W a,W b] [] 0 (Q3 (.bool (wi a b)) [] 0):=by
 refine Ab ok.k448 rfl fun x hx=>?_
 unfold wi
 by_cases h1:a≤8192#64
 ·refine es 2000 ?_;(simp only [Ag6,Aek,h1,LZ,seval])
  have zz:=h1;exact Bu hx [] ⟨rfl,rfl,rfl⟩
 ·refine es 2000 ?_;(simp only [Ag6,Aek,h1,LZ,seval])
  have zz:=h1;exact Bu hx [] ⟨rfl,rfl,rfl⟩
theorem O8 (ok:OkNx M) (op:Nat) (ho:op=29 ∨ op=30 ∨ op=31 ∨ op=32 ∨ op=33) (g:Nat→BitVec 64) (pc:BitVec 64) (hl:Bool) (xt:BitVec 64) (d a:Nat) (hd:d < 16) (ha:a < 16) (to:BitVec 64) :
 Ae M 347 [By g pc hl xt,.int .i64 op,.int .i64 d,.int .i64 a,W to] [] 0 (Q3 ((Lk op ⟨g,pc,hl,xt⟩ d a to).v) [] 0):=by
 refine Ab ok.k347 rfl fun x hx=>?_
 by_cases h0:g a=0#64 <;> by_cases h1:8192#64≤to <;> by_cases h2:8192#64≤g a <;> rcases ho with rfl | rfl | rfl | rfl | rfl
 all_goals simp only [Lk,h0,h1,h2,seval,Lb9,true_and,false_and,or_false,not_false_eq_true,false_or,Hd.v,Hd.stop]
 all_goals refine es 2000 ?_;(simp only [An8,Ai6,By,h0,h1,h2,Lbp,seval])
 all_goals repeat refine sd ?_
 all_goals try ((have zz:=Bo @By.eq_1 Tx;exact Bu hx [] ⟨rfl,rfl,rfl⟩))
 all_goals
  have zz:=@By.eq_1;refine DJ (Bz ok g pc hl xt A9) ?_
  (simp only [G8,seval])
  have zz:=Bo @By.eq_1 Tx;exact Bu hx [] ⟨rfl,rfl,rfl⟩
variable {M:Seat}
structure OkQ (M:Seat):Prop where
 okA:OkM M
 ok:OkO M
 okP:OkP M
 okN:OkNx M
theorem BN (e:Int):Da (some e) = .ifc 74 (.int .i64 e):=rfl
theorem EA:Da none = .nili:=rfl
def Lbs:=(GE @Hd.v.eq_1 @LY @Fl @EA @BN)
def Jf:=(CX @BU @List.nil_append.{0} @EA)
def RO:=(W7 @Hd.stop.eq_1 @Hd.v.eq_1 @LY @Fl @EA @BN @NW @IS.eq_1)
theorem pfl (pc:BitVec 64) (h:¬ 8192#64≤pc):pc.toNat < 8192:=by rw [BitVec.le_def] at h;simpa using h
theorem Ug (ok:OkQ M) (I:MemI M) (g:Nat→BitVec 64) (pc:BitVec 64) (xt:BitVec 64) (s:I.σ) :
 Ae M 241 [By g pc true xt,.ifc I.t (.ptr 0 [])] (I.E0 s) I.k0 (Q3 (Ag (By g pc true xt) .nili) (I.E0 s) (I.k0 + 1)):=by
 refine Ab ok.okN.k241 rfl fun x hx=>?_
 refine Bt.up (N':=32) Gu ?_
 refine es 2000 ?_;(simp only [NK,I.hdel0,seval])
 exact I.ret0 [_,_] (n:=100) hx BS ⟨rfl,rfl,rfl⟩ (by (simp only [Fl,seval])) (by (simp only [Fl,seval,LY])) Am
theorem RM (ok:OkQ M) (I:MemI M) (g:Nat→BitVec 64) (pc:BitVec 64) (xt:BitVec 64) (s:I.σ) (hpc:8192#64≤pc) :
 Ae M 241 [By g pc false xt,.ifc I.t (.ptr 0 [])] (I.E0 s) I.k0 (Q3 (Ag (By g pc true A9) .nili) (I.E0 s) (I.k0 + 1)):=by
 refine Ab ok.okN.k241 rfl fun x hx=>?_
 refine Bt.up (N':=32) Gu ?_
 refine es 2000 ?_;(simp only [NK,I.hdel0,hpc,seval])
 have zz:=@By.eq_1;refine DJ (Bz ok.okN g pc false xt A9) ?_
 (simp only [G8,seval])
 exact I.ret0 [_,_] (n:=100) hx BS ⟨rfl,rfl,rfl⟩ (by (simp only [Fl,seval])) (by (simp only [Fl,seval,LY])) Am
theorem QP (ok:OkQ M) (I:MemI M) (g:Nat→BitVec 64) (pc:BitVec 64) (xt:BitVec 64) (s:I.σ) (hz:I.Z s) (hpc:¬ 8192#64≤pc) (e:Int) (he:(I.mm.rd s pc).2.1=some e) :
 Ae M 241 [By g pc false xt,.ifc I.t (.ptr 0 [])] (I.E0 s) I.k0 (Q3 (Ag (By g pc false xt) (Da (some e))) (I.E (I.mm.rd s pc).2.2 I.k0) (I.k0 + 1)):=by
 refine Ab ok.okN.k241 rfl fun x hx=>?_
 refine Bt.up (N':=32) Gu ?_
 refine es 2000 ?_;(simp only [NK,I.hdel0,hpc,seval])
 refine I.dynR0 [_,_] hz hpc BS ?_
 (simp only [he,BN,BU,List.nil_append,seval])
 exact I.ret [_,_] (q:=I.k0) ⟨Nat.le_refl _,by have:=I.hk;omega⟩ hx Am BS ⟨rfl,rfl,rfl⟩ (by (simp only [Fl,seval])) (by (simp only [Fl,BN,seval,LY]))
theorem TX (ok:OkQ M) (I:MemI M) (g:Nat→BitVec 64) (pc:BitVec 64) (xt:BitVec 64) (s:I.σ) (hz:I.Z s) (hpc:¬ 8192#64≤pc) (w:BitVec 64) (hw:(I.mm.rd s pc).1=w) (he:(I.mm.rd s pc).2.1=none) (s1:I.σ) (hs:(I.mm.rd s pc).2.2=s1) (h:¬ (BP w≤35∧w >>> 32 &&& 255#64=0#64)) :
 Ae M 241 [By g pc false xt,.ifc I.t (.ptr 0 [])] (I.E0 s) I.k0 (Q3 (Ag (By g pc true A9) (Da (none))) (I.E (s1) I.k0) (I.k0 + 1)):=by
 refine Ab ok.okN.k241 rfl fun x hx=>?_
 refine Bt.up (N':=32) Gu ?_
 have a1:=Ap w 52
 have a2:=Ap w 48
 have a3:=Ap w 44
 have a4:=Ap w 40
 have hL:I.len s1≤100:=F7
 refine es 2000 ?_;(simp only [NK,I.hdel0,hpc,seval])
 refine I.dynR0 [_,_] hz hpc BS ?_
 rw [hw,he,hs]
 (simp only [Jf,seval])
 refine Al (Hv ok.ok.toOkV w h) ?_
 (simp only [LZ,seval])
 repeat refine sd ?_
 have zz:=@By.eq_1;refine DJ (Bz ok.okN g pc false xt A9) ?_
 (simp only [G8,seval])
 exact I.ret [_,_] (q:=I.k0) ⟨Nat.le_refl _,by have:=I.hk;omega⟩ hx Am BS ⟨rfl,rfl,rfl⟩ (by (simp only [Fl,seval])) (by (simp only [RO,seval]))
theorem OV (ok:OkQ M) (I:MemI M) (g:Nat→BitVec 64) (pc:BitVec 64) (xt:BitVec 64) (s:I.σ) (hz:I.Z s) (hpc:¬ 8192#64≤pc) (w:BitVec 64) (hw:(I.mm.rd s pc).1=w) (he:(I.mm.rd s pc).2.1=none) (s1:I.σ) (hs:(I.mm.rd s pc).2.2=s1) (hop:BP w=0) (h2:w >>> 32 &&& 255#64=0#64) :
 Ae M 241 [By g pc false xt,.ifc I.t (.ptr 0 [])] (I.E0 s) I.k0 (Q3 (Ag (By g pc true (g (pF w 48))) (Da (none))) (I.E (s1) I.k0) (I.k0 + 1)):=by
 refine Ab ok.okN.k241 rfl fun x hx=>?_
 refine Bt.up (N':=32) Gu ?_
 have a1:=Ap w 52
 have a2:=Ap w 48
 have a3:=Ap w 44
 have a4:=Ap w 40
 have hL:I.len s1≤100:=F7
 refine es 2000 ?_;(simp only [NK,I.hdel0,hpc,seval])
 refine I.dynR0 [_,_] hz hpc BS ?_
 rw [hw,he,hs]
 (simp only [Jf,seval])
 have zz:=@Bg.eq_1;refine DJ (A6 ok.ok.toOkV w Aa h2) ?_
 (simp only [GR,hop,I.idsE,seval])
 repeat refine sd ?_
 have zz:=@By.eq_1;refine KZ (Bz ok.okN g pc false xt (g (pF w 48))) ?_
 (simp only [G8,I.idsE,seval])
 exact I.ret [_,_] (q:=I.k0) ⟨Nat.le_refl _,by have:=I.hk;omega⟩ hx Am BS ⟨rfl,rfl,rfl⟩ (by (simp only [Fl,seval])) (by (simp only [RO,seval]))
theorem TZ (ok:OkQ M) (I:MemI M) (g:Nat→BitVec 64) (pc:BitVec 64) (xt:BitVec 64) (s:I.σ) (hz:I.Z s) (hpc:¬ 8192#64≤pc) (w:BitVec 64) (hw:(I.mm.rd s pc).1=w) (he:(I.mm.rd s pc).2.1=none) (s1:I.σ) (hs:(I.mm.rd s pc).2.2=s1) (hop:BP w=26) (h2:w >>> 32 &&& 255#64=0#64) :
 Ae M 241 [By g pc false xt,.ifc I.t (.ptr 0 [])] (I.E0 s) I.k0 (Q3 (Ag (By (IS g (pF w 52) (BitVec.ofInt 64 (pN w))) (pc + 1#64) false xt) (Da (none))) (I.E (s1) I.k0) (I.k0 + 1)):=by
 refine Ab ok.okN.k241 rfl fun x hx=>?_
 refine Bt.up (N':=32) Gu ?_
 have a1:=Ap w 52
 have a2:=Ap w 48
 have a3:=Ap w 44
 have a4:=Ap w 40
 have hL:I.len s1≤100:=F7
 refine es 2000 ?_;(simp only [NK,I.hdel0,hpc,seval])
 refine I.dynR0 [_,_] hz hpc BS ?_
 rw [hw,he,hs]
 (simp only [Jf,seval])
 have zz:=@Bg.eq_1;refine DJ (A6 ok.ok.toOkV w Aa h2) ?_
 (simp only [GR,hop,I.idsE,seval])
 repeat refine sd ?_
 exact I.ret [_,_] (q:=I.k0) ⟨Nat.le_refl _,by have:=I.hk;omega⟩ hx Am BS ⟨rfl,rfl,rfl⟩ (by (simp only [Fl,seval])) (by (simp only [RO,seval]))
theorem N7 (ok:OkQ M) (I:MemI M) (g:Nat→BitVec 64) (pc:BitVec 64) (xt:BitVec 64) (s:I.σ) (hz:I.Z s) (hpc:¬ 8192#64≤pc) (w:BitVec 64) (hw:(I.mm.rd s pc).1=w) (he:(I.mm.rd s pc).2.1=none) (s1:I.σ) (hs:(I.mm.rd s pc).2.2=s1) (op:Nat) (h1:1≤op) (h25:op≤25) (hop:BP w=op) (h2:w >>> 32 &&& 255#64=0#64) :
 Ae M 241 [By g pc false xt,.ifc I.t (.ptr 0 [])] (I.E0 s) I.k0 (Q3 (Ag (By (IS g (pF w 52) (apW op (g (pF w 48)) (g (pF w 44)) (g (pF w 40)))) (pc + 1#64) false xt) (Da (none))) (I.E (s1) I.k0) (I.k0 + 1)):=by
 refine Ab ok.okN.k241 rfl fun x hx=>?_
 refine Bt.up (N':=32) Gu ?_
 have a1:=Ap w 52
 have a2:=Ap w 48
 have a3:=Ap w 44
 have a4:=Ap w 40
 have hL:I.len s1≤100:=F7
 have d1:((op:Int)=0)=False:=eq_false Aa
 have d2:((op:Int) < 26)=True:=eq_true Aa
 refine es 2000 ?_;(simp only [NK,I.hdel0,hpc,seval])
 refine I.dynR0 [_,_] hz hpc BS ?_
 rw [hw,he,hs]
 (simp only [Jf,seval])
 have zz:=@Bg.eq_1;refine DJ (A6 ok.ok.toOkV w Aa h2) ?_
 (simp only [GR,hop,d1,d2,I.idsE,seval])
 repeat refine sd ?_
 refine Bh (GM ok.okP op h1 h25 (g (pF w 48)) (g (pF w 44)) (g (pF w 40))) ?_
 (simp only [BU,I.idsE,seval])
 repeat refine sd ?_
 exact I.ret [_,_] (q:=I.k0) ⟨Nat.le_refl _,by have:=I.hk;omega⟩ hx Am BS ⟨rfl,rfl,rfl⟩ (by (simp only [Fl,seval])) (by (simp only [RO,seval]))
theorem RH (ok:OkQ M) (I:MemI M) (g:Nat→BitVec 64) (pc:BitVec 64) (xt:BitVec 64) (s:I.σ) (hz:I.Z s) (hpc:¬ 8192#64≤pc) (w:BitVec 64) (hw:(I.mm.rd s pc).1=w) (he:(I.mm.rd s pc).2.1=none) (s1:I.σ) (hs:(I.mm.rd s pc).2.2=s1) (hop:BP w=27) (h2:w >>> 32 &&& 255#64=0#64) (a:BitVec 64) (ha:g (pF w 48) + BitVec.ofInt 64 (pN w)=a) (hlt:8192#64≤a) :
 Ae M 241 [By g pc false xt,.ifc I.t (.ptr 0 [])] (I.E0 s) I.k0 (Q3 (Ag (By g pc true A9) (Da (none))) (I.E (s1) I.k0) (I.k0 + 1)):=by
 refine Ab ok.okN.k241 rfl fun x hx=>?_
 refine Bt.up (N':=32) Gu ?_
 have a1:=Ap w 52
 have a2:=Ap w 48
 have a3:=Ap w 44
 have a4:=Ap w 40
 have hL:I.len s1≤100:=F7
 refine es 2000 ?_;(simp only [NK,I.hdel0,hpc,seval])
 refine I.dynR0 [_,_] hz hpc BS ?_
 rw [hw,he,hs]
 (simp only [Jf,seval])
 have zz:=@Bg.eq_1;refine DJ (A6 ok.ok.toOkV w Aa h2) ?_
 (simp only [GR,hop,ha,hlt,I.idsE,seval])
 repeat refine sd ?_
 have zz:=@By.eq_1;refine DJ (Bz ok.okN g pc false xt A9) ?_
 (simp only [G8,seval])
 exact I.ret [_,_] (q:=I.k0) ⟨Nat.le_refl _,by have:=I.hk;omega⟩ hx Am BS ⟨rfl,rfl,rfl⟩ (by (simp only [Fl,seval])) (by (simp only [RO,seval]))
theorem R9 (ok:OkQ M) (I:MemI M) (g:Nat→BitVec 64) (pc:BitVec 64) (xt:BitVec 64) (s:I.σ) (hz:I.Z s) (hpc:¬ 8192#64≤pc) (w:BitVec 64) (hw:(I.mm.rd s pc).1=w) (he:(I.mm.rd s pc).2.1=none) (s1:I.σ) (hs:(I.mm.rd s pc).2.2=s1) (hop:BP w=28) (h2:w >>> 32 &&& 255#64=0#64) (a:BitVec 64) (ha:g (pF w 48) + BitVec.ofInt 64 (pN w)=a) (hlt:8192#64≤a) :
 Ae M 241 [By g pc false xt,.ifc I.t (.ptr 0 [])] (I.E0 s) I.k0 (Q3 (Ag (By g pc true A9) (Da (none))) (I.E (s1) I.k0) (I.k0 + 1)):=by
 refine Ab ok.okN.k241 rfl fun x hx=>?_
 refine Bt.up (N':=32) Gu ?_
 have a1:=Ap w 52
 have a2:=Ap w 48
 have a3:=Ap w 44
 have a4:=Ap w 40
 have hL:I.len s1≤100:=F7
 refine es 2000 ?_;(simp only [NK,I.hdel0,hpc,seval])
 refine I.dynR0 [_,_] hz hpc BS ?_
 rw [hw,he,hs]
 (simp only [Jf,seval])
 have zz:=@Bg.eq_1;refine DJ (A6 ok.ok.toOkV w Aa h2) ?_
 (simp only [GR,hop,ha,hlt,I.idsE,seval])
 repeat refine sd ?_
 have zz:=@By.eq_1;refine DJ (Bz ok.okN g pc false xt A9) ?_
 (simp only [G8,seval])
 exact I.ret [_,_] (q:=I.k0) ⟨Nat.le_refl _,by have:=I.hk;omega⟩ hx Am BS ⟨rfl,rfl,rfl⟩ (by (simp only [Fl,seval])) (by (simp only [RO,seval]))
theorem TE (ok:OkQ M) (I:MemI M) (g:Nat→BitVec 64) (pc:BitVec 64) (xt:BitVec 64) (s:I.σ) (hz:I.Z s) (hpc:¬ 8192#64≤pc) (w:BitVec 64) (hw:(I.mm.rd s pc).1=w) (he:(I.mm.rd s pc).2.1=none) (s1:I.σ) (hs:(I.mm.rd s pc).2.2=s1) (hop:BP w=27) (h2:w >>> 32 &&& 255#64=0#64) (a:BitVec 64) (ha:g (pF w 48) + BitVec.ofInt 64 (pN w)=a) (hlt:¬ 8192#64≤a) (he2:(I.mm.rd s1 a).2.1=none) :
 Ae M 241 [By g pc false xt,.ifc I.t (.ptr 0 [])] (I.E0 s) I.k0 (Q3 (Ag (By (IS g (pF w 52) (I.mm.rd s1 a).1) (pc + 1#64) false xt) (Da (none))) (I.E ((I.mm.rd s1 a).2.2) I.k0) (I.k0 + 1)):=by
 refine Ab ok.okN.k241 rfl fun x hx=>?_
 refine Bt.up (N':=32) Gu ?_
 have a1:=Ap w 52
 have a2:=Ap w 48
 have a3:=Ap w 44
 have a4:=Ap w 40
 have hL:I.len s1≤100:=F7
 refine es 2000 ?_;(simp only [NK,I.hdel0,hpc,seval])
 refine I.dynR0 [_,_] hz hpc BS ?_
 rw [hw,he,hs]
 (simp only [Jf,seval])
 have zz:=@Bg.eq_1;refine DJ (A6 ok.ok.toOkV w Aa h2) ?_
 (simp only [GR,hop,ha,hlt,I.idsE,seval])
 repeat refine sd ?_
 refine I.opyR [_,_] hL hlt Am BS ?_
 (simp only [he2,Jf,BN,I.idsE,seval])
 repeat refine sd ?_
 exact I.ret [_,_] (q:=I.k0) ⟨Nat.le_refl _,by have:=I.hk;omega⟩ hx Am BS ⟨rfl,rfl,rfl⟩ (by (simp only [Fl,seval])) (by (simp only [RO,seval]))
theorem QV (ok:OkQ M) (I:MemI M) (g:Nat→BitVec 64) (pc:BitVec 64) (xt:BitVec 64) (s:I.σ) (hz:I.Z s) (hpc:¬ 8192#64≤pc) (w:BitVec 64) (hw:(I.mm.rd s pc).1=w) (he:(I.mm.rd s pc).2.1=none) (s1:I.σ) (hs:(I.mm.rd s pc).2.2=s1) (hop:BP w=27) (h2:w >>> 32 &&& 255#64=0#64) (a:BitVec 64) (ha:g (pF w 48) + BitVec.ofInt 64 (pN w)=a) (hlt:¬ 8192#64≤a) (e:Int) (he2:(I.mm.rd s1 a).2.1=some e) :
 Ae M 241 [By g pc false xt,.ifc I.t (.ptr 0 [])] (I.E0 s) I.k0 (Q3 (Ag (By (IS g (pF w 52) (I.mm.rd s1 a).1) (pc + 1#64) false xt) (Da (some e))) (I.E ((I.mm.rd s1 a).2.2) I.k0) (I.k0 + 1)):=by
 refine Ab ok.okN.k241 rfl fun x hx=>?_
 refine Bt.up (N':=32) Gu ?_
 have a1:=Ap w 52
 have a2:=Ap w 48
 have a3:=Ap w 44
 have a4:=Ap w 40
 have hL:I.len s1≤100:=F7
 refine es 2000 ?_;(simp only [NK,I.hdel0,hpc,seval])
 refine I.dynR0 [_,_] hz hpc BS ?_
 rw [hw,he,hs]
 (simp only [Jf,seval])
 have zz:=@Bg.eq_1;refine DJ (A6 ok.ok.toOkV w Aa h2) ?_
 (simp only [GR,hop,ha,hlt,I.idsE,seval])
 repeat refine sd ?_
 refine I.opyR [_,_] hL hlt Am BS ?_
 (simp only [he2,Jf,BN,I.idsE,seval])
 repeat refine sd ?_
 exact I.ret [_,_] (q:=I.k0) ⟨Nat.le_refl _,by have:=I.hk;omega⟩ hx Am BS ⟨rfl,rfl,rfl⟩ (by (simp only [Fl,seval])) (by (simp only [RO,seval]))
theorem Tk (ok:OkQ M) (I:MemI M) (g:Nat→BitVec 64) (pc:BitVec 64) (xt:BitVec 64) (s:I.σ) (hz:I.Z s) (hpc:¬ 8192#64≤pc) (w:BitVec 64) (hw:(I.mm.rd s pc).1=w) (he:(I.mm.rd s pc).2.1=none) (s1:I.σ) (hs:(I.mm.rd s pc).2.2=s1) (hop:BP w=28) (h2:w >>> 32 &&& 255#64=0#64) (a:BitVec 64) (ha:g (pF w 48) + BitVec.ofInt 64 (pN w)=a) (hlt:¬ 8192#64≤a) (he2:(I.mm.wr s1 a (g (pF w 44))).1=none) :
 Ae M 241 [By g pc false xt,.ifc I.t (.ptr 0 [])] (I.E0 s) I.k0 (Q3 (Ag (By g (pc + 1#64) false xt) (Da (none))) (I.E ((I.mm.wr s1 a (g (pF w 44))).2) I.k0) (I.k0 + 1)):=by
 refine Ab ok.okN.k241 rfl fun x hx=>?_
 refine Bt.up (N':=32) Gu ?_
 have a1:=Ap w 52
 have a2:=Ap w 48
 have a3:=Ap w 44
 have a4:=Ap w 40
 have hL:I.len s1≤100:=F7
 refine es 2000 ?_;(simp only [NK,I.hdel0,hpc,seval])
 refine I.dynR0 [_,_] hz hpc BS ?_
 rw [hw,he,hs]
 (simp only [Jf,seval])
 have zz:=@Bg.eq_1;refine DJ (A6 ok.ok.toOkV w Aa h2) ?_
 (simp only [GR,hop,ha,hlt,I.nil_in,I.idsE,seval])
 repeat refine sd ?_
 refine I.opyW [_,_] hL hlt Am BS ?_
 (simp only [he2,Jf,BN,I.idsE,seval])
 repeat refine sd ?_
 exact I.ret [_,_] (q:=I.k0) ⟨Nat.le_refl _,by have:=I.hk;omega⟩ hx Am BS ⟨rfl,rfl,rfl⟩ (by (simp only [Fl,seval])) (by (simp only [RO,seval]))
theorem QT (ok:OkQ M) (I:MemI M) (g:Nat→BitVec 64) (pc:BitVec 64) (xt:BitVec 64) (s:I.σ) (hz:I.Z s) (hpc:¬ 8192#64≤pc) (w:BitVec 64) (hw:(I.mm.rd s pc).1=w) (he:(I.mm.rd s pc).2.1=none) (s1:I.σ) (hs:(I.mm.rd s pc).2.2=s1) (hop:BP w=28) (h2:w >>> 32 &&& 255#64=0#64) (a:BitVec 64) (ha:g (pF w 48) + BitVec.ofInt 64 (pN w)=a) (hlt:¬ 8192#64≤a) (e:Int) (he2:(I.mm.wr s1 a (g (pF w 44))).1=some e) :
 Ae M 241 [By g pc false xt,.ifc I.t (.ptr 0 [])] (I.E0 s) I.k0 (Q3 (Ag (By g (pc + 1#64) false xt) (Da (some e))) (I.E ((I.mm.wr s1 a (g (pF w 44))).2) I.k0) (I.k0 + 1)):=by
 refine Ab ok.okN.k241 rfl fun x hx=>?_
 refine Bt.up (N':=32) Gu ?_
 have a1:=Ap w 52
 have a2:=Ap w 48
 have a3:=Ap w 44
 have a4:=Ap w 40
 have hL:I.len s1≤100:=F7
 refine es 2000 ?_;(simp only [NK,I.hdel0,hpc,seval])
 refine I.dynR0 [_,_] hz hpc BS ?_
 rw [hw,he,hs]
 (simp only [Jf,seval])
 have zz:=@Bg.eq_1;refine DJ (A6 ok.ok.toOkV w Aa h2) ?_
 (simp only [GR,hop,ha,hlt,I.nil_in,I.idsE,seval])
 repeat refine sd ?_
 refine I.opyW [_,_] hL hlt Am BS ?_
 (simp only [he2,Jf,BN,I.idsE,seval])
 repeat refine sd ?_
 exact I.ret [_,_] (q:=I.k0) ⟨Nat.le_refl _,by have:=I.hk;omega⟩ hx Am BS ⟨rfl,rfl,rfl⟩ (by (simp only [Fl,seval])) (by (simp only [RO,seval]))
theorem P5 (ok:OkQ M) (I:MemI M) (g:Nat→BitVec 64) (pc:BitVec 64) (xt:BitVec 64) (s:I.σ) (hz:I.Z s) (hpc:¬ 8192#64≤pc) (w:BitVec 64) (hw:(I.mm.rd s pc).1=w) (he:(I.mm.rd s pc).2.1=none) (s1:I.σ) (hs:(I.mm.rd s pc).2.2=s1) (op:Nat) (ho:op=29 ∨ op=30 ∨ op=31 ∨ op=32 ∨ op=33) (hop:BP w=op) (h2:w >>> 32 &&& 255#64=0#64) :
 Ae M 241 [By g pc false xt,.ifc I.t (.ptr 0 [])] (I.E0 s) I.k0 (Q3 (Ag ((Lk op ⟨g,pc,false,xt⟩ (pF w 52) (pF w 48) (BitVec.ofInt 64 (pN w))).v) (Da (none))) (I.E (s1) I.k0) (I.k0 + 1)):=by
 refine Ab ok.okN.k241 rfl fun x hx=>?_
 refine Bt.up (N':=32) Gu ?_
 have a1:=Ap w 52
 have a2:=Ap w 48
 have a3:=Ap w 44
 have a4:=Ap w 40
 have hL:I.len s1≤100:=F7
 have d1:((op:Int)=0)=False:=eq_false Aa
 have d2:((op:Int) < 26)=False:=eq_false Aa
 have d3:((op:Int)=26)=False:=eq_false Aa
 have d4:((op:Int)=27)=False:=eq_false Aa
 have d5:((op:Int)=28)=False:=eq_false Aa
 have d6:((op:Int) < 34)=True:=eq_true Aa
 refine es 2000 ?_;(simp only [NK,I.hdel0,hpc,seval])
 refine I.dynR0 [_,_] hz hpc BS ?_
 rw [hw,he,hs]
 (simp only [Jf,seval])
 have zz:=@Bg.eq_1;refine DJ (A6 ok.ok.toOkV w Aa h2) ?_
 (simp only [GR,hop,d1,d2,d3,d4,d5,d6,I.idsE,seval])
 repeat refine sd ?_
 have hJ:=O8 ok.okN op ho g pc false xt (pF w 52) (pF w 48) a1 a2 (BitVec.ofInt 64 (pN w))
 generalize Lk op ⟨g,pc,false,xt⟩ (pF w 52) (pF w 48) (BitVec.ofInt 64 (pN w))=j at *
 unfold Hd.v at hJ
 have zz:=@By.eq_1;refine DJ (hJ) ?_
 (simp only [G8,seval])
 exact I.ret [_,_] (q:=I.k0) ⟨Nat.le_refl _,by have:=I.hk;omega⟩ hx Am BS ⟨rfl,rfl,rfl⟩ (by (simp only [Fl,seval])) (by (simp only [RO,seval]))
end Mv
