/- A part. -/
import Derived.Test.YtlfkjfonpacelaaGreatDoorFF
import Derived.Test.YtlfkjfonpacelaaGreatDoorFG
set_option linter.all false
set_option maxRecDepth 20000
set_option maxHeartbeats 4000000
namespace Mv
open Go
variable {M:Seat}
def Oi:=(F5 @LZ @Aks.eq_1 @Aoj.eq_1 @AP.eq_1)
structure Hd where
 g:Nat→BitVec 64
 pc:BitVec 64
 hl:Bool
 xt:BitVec 64
def Hd.v (h:Hd):V:=AP h.g h.pc h.hl h.xt
def Hd.stop (h:Hd) (x:BitVec 64):Hd:=⟨h.g,h.pc,true,x⟩
def isI (w:BitVec 64):Bool:=decide (BS w≤35∧w >>> 32 &&& 255#64=0#64)
def Lu (op:Nat) (h:Hd) (d a:Nat) (to:BitVec 64):Hd :=
 if (op=30∧¬ h.g a=0#64) ∨ (op=31∧h.g a=0#64) then ⟨h.g,h.pc + 1#64,h.hl,h.xt⟩
 else if 8192#64≤(if op=33 then h.g a else to) then h.stop A8
 else ⟨if op=32 then Ig h.g d (h.pc + 1#64) else h.g,if op=33 then h.g a else to,h.hl,h.xt⟩
section
variable {σ:Type} (m:Mm σ)
def Qv (a:BitVec 64):Nat→Nat→σ→List (BitVec 64)→Option Int × σ × List (BitVec 64)
 | 0,_,s,l=>(none,s,l)
 | n + 1, i, s, l => match (m.rd s (a + BitVec.ofNat 64 i)).2.1 with
   | some e=>(some e,(m.rd s (a + BitVec.ofNat 64 i)).2.2,l)
   | none=>Qv a n (i + 1) (m.rd s (a + BitVec.ofNat 64 i)).2.2 (l ++ [(m.rd s (a + BitVec.ofNat 64 i)).1])
def Zk (a:BitVec 64) (f:Nat→BitVec 64):Nat→Nat→σ→Option Int × σ
 | 0,_,s=>(none,s)
 | n + 1, i, s => match (m.wr s (a + BitVec.ofNat 64 i) (f i)).1 with
   | some e=>(some e,(m.wr s (a + BitVec.ofNat 64 i) (f i)).2)
   | none=>Zk a f n (i + 1) (m.wr s (a + BitVec.ofNat 64 i) (f i)).2
def YY (p:Nat→BitVec 8) (i:Nat):BitVec 64:=II (fun j=>p (8 * i + j)) 8
def DB (l:List (BitVec 64)):Nat→BitVec 8:=Bb fun j=>l.getD j 0#64
def Lx (h:Hd) (s:σ) (to:BitVec 64) (t:Nat) (p:Nat→BitVec 8):Hd × Option Int × σ :=
 match Zk m to (YY p) t 0 s with
 | (some e,s')=>(h,some e,s')
 | (none,s')=>(⟨h.g,h.pc + 1#64,h.hl,h.xt⟩,none,s')
def Ab4 (h:Hd) (s:σ) (to:BitVec 64) (d:Dg):Hd × Option Int × σ :=
 match m.pi s d with
 | (_,some e,s')=>(h,some e,s')
 | (p,none,s')=>Lx m h s' to 8 p.at
def Re (op:Nat) (h:Hd) (s:σ) (a b:BitVec 64):Hd × Option Int × σ :=
 if (wi a (if op=35 then 4#64 else 8#64) && wi b (if op=35 then 8#64 else 4#64))=false then (h.stop A8,none,s)
 else match Qv m a (if op=35 then 4 else 8) 0 s [] with
  | (some e,s',_)=>(h,some e,s')
  | (none, s', l) =>
    if op=34 then Lx m h s' b 4 (Cf (Pr.mk' (DB l)).at).at
    else Ab4 m h s' b (Dg.mk' (DB l))
def MT (h:Hd) (w:BitVec 64) (s:σ):Hd × Option Int × σ :=
 if isI w=false then (h.stop A8,none,s)
 else if BS w=0 then (h.stop (h.g (pF w 48)),none,s)
 else if BS w < 26 then (⟨Ig h.g (pF w 52) (apW (BS w) (h.g (pF w 48)) (h.g (pF w 44)) (h.g (pF w 40))),h.pc + 1#64,h.hl,h.xt⟩,none,s)
 else if BS w=26 then (⟨Ig h.g (pF w 52) (BitVec.ofInt 64 (pN w)),h.pc + 1#64,h.hl,h.xt⟩,none,s)
 else if BS w=27 ∨ BS w=28 then
  if 8192#64≤h.g (pF w 48) + BitVec.ofInt 64 (pN w) then (h.stop A8,none,s)
  else if BS w=27 then (⟨Ig h.g (pF w 52) (m.rd s (h.g (pF w 48) + BitVec.ofInt 64 (pN w))).1,h.pc + 1#64,h.hl,h.xt⟩,(m.rd s (h.g (pF w 48) + BitVec.ofInt 64 (pN w))).2)
  else (⟨h.g,h.pc + 1#64,h.hl,h.xt⟩,m.wr s (h.g (pF w 48) + BitVec.ofInt 64 (pN w)) (h.g (pF w 44)))
 else if BS w < 34 then (Lu (BS w) h (pF w 52) (pF w 48) (BitVec.ofInt 64 (pN w)),none,s)
 else Re m (BS w) h s (h.g (pF w 48)) (h.g (pF w 44))
def nx (h:Hd) (s:σ):Hd × Option Int × σ :=
 match (m.rd s h.pc).2.1 with
 | some e=>(h,some e,(m.rd s h.pc).2.2)
 | none=>MT m h (m.rd s h.pc).1 (m.rd s h.pc).2.2
end
structure OkNx (M:Seat):Prop where
 k241:Av M 241 Aoj=true
 k346:Av M 346 An1=true
 k347:Av M 347 Amj=true
 k348:Av M 348 QY=true
 k448:Av M 448 Ai4=true
theorem B0 (ok:OkNx M) (g:Nat→BitVec 64) (pc:BitVec 64) (hl:Bool) (xt e:BitVec 64) :
 Af M 346 [AP g pc hl xt,W e] [] 0 (Q3 (AP g pc true e) [] 0):=by
 refine Ab ok.k346 rfl fun x hx=>?_
 refine es 2000 ?_;(simp only [An1,Aoi,E7,seval])
 have zz:=@AP.eq_1;exact Bz hx [] ⟨rfl,rfl,rfl⟩
theorem Br (ok:OkNx M) (a b:BitVec 64) :
 Af M 448 [W a,W b] [] 0 (Q3 (.bool (wi a b)) [] 0):=by
 refine Ab ok.k448 rfl fun x hx=>?_
 unfold wi
 by_cases h1:a≤8192#64
 ·refine es 2000 ?_;(simp only [Ai4,Aga,h1,LZ,seval])
  have zz:=h1;exact Bz hx [] ⟨rfl,rfl,rfl⟩
 ·refine es 2000 ?_;(simp only [Ai4,Aga,h1,LZ,seval])
  have zz:=h1;exact Bz hx [] ⟨rfl,rfl,rfl⟩
theorem O7 (ok:OkNx M) (op:Nat) (ho:op=29 ∨ op=30 ∨ op=31 ∨ op=32 ∨ op=33) (g:Nat→BitVec 64) (pc:BitVec 64) (hl:Bool) (xt:BitVec 64) (d a:Nat) (hd:d < 16) (ha:a < 16) (to:BitVec 64) :
 Af M 347 [AP g pc hl xt,.int .i64 op,.int .i64 d,.int .i64 a,W to] [] 0 (Q3 ((Lu op ⟨g,pc,hl,xt⟩ d a to).v) [] 0):=by
 refine Ab ok.k347 rfl fun x hx=>?_
 by_cases h0:g a=0#64 <;> by_cases h1:8192#64≤to <;> by_cases h2:8192#64≤g a <;> rcases ho with rfl | rfl | rfl | rfl | rfl
 all_goals simp only [Lu,h0,h1,h2,seval,Lb9,true_and,false_and,or_false,not_false_eq_true,false_or,Hd.v,Hd.stop]
 all_goals refine es 2000 ?_;(simp only [Amj,Ali,AP,h0,h1,h2,Lbp,seval])
 all_goals repeat refine sd ?_
 all_goals try ((have zz:=Bc @AP.eq_1 Q5;exact Bz hx [] ⟨rfl,rfl,rfl⟩))
 all_goals
  have zz:=@AP.eq_1;refine CV (B0 ok g pc hl xt A8) ?_
  (simp only [E7,seval])
  have zz:=Bc @AP.eq_1 Q5;exact Bz hx [] ⟨rfl,rfl,rfl⟩
variable {M:Seat}
structure OkQ (M:Seat):Prop where
 okA:OkM M
 ok:OkO M
 okP:OkP M
 okN:OkNx M
theorem AE (e:Int):Cr (some e) = .ifc 74 (.int .i64 e):=rfl
theorem Bm:Cr none = .nili:=rfl
def Lbs:=(N8 @Hd.v.eq_1 @LY @F2 @Bm @AE)
def Jq:=(CC @BV @List.nil_append.{0} @Bm)
def Sl:=(Vy @Hd.stop.eq_1 @Hd.v.eq_1 @LY @F2 @Bm @AE @Pk @Ig.eq_1)
theorem pfl (pc:BitVec 64) (h:¬ 8192#64≤pc):pc.toNat < 8192:=by rw [BitVec.le_def] at h;simpa using h
theorem Ir (ok:OkQ M) (I:MemI M) (g:Nat→BitVec 64) (pc:BitVec 64) (xt:BitVec 64) (s:I.σ) :
 Af M 241 [AP g pc true xt,.ifc I.t (.ptr 0 [])] (I.E0 s) I.k0 (Q3 (Ah (AP g pc true xt) .nili) (I.E0 s) (I.k0 + 1)):=by
 refine Ab ok.okN.k241 rfl fun x hx=>?_
 refine AK.up (N':=32) G8 ?_
 refine es 2000 ?_;(simp only [Oi,I.hdel0,seval])
 exact I.ret0 [_,_] (n:=100) hx BF ⟨rfl,rfl,rfl⟩ (by (simp only [F2,seval])) (by (simp only [F2,seval,LY])) Aj
theorem GW (ok:OkQ M) (I:MemI M) (g:Nat→BitVec 64) (pc:BitVec 64) (xt:BitVec 64) (s:I.σ) (hpc:8192#64≤pc) :
 Af M 241 [AP g pc false xt,.ifc I.t (.ptr 0 [])] (I.E0 s) I.k0 (Q3 (Ah (AP g pc true A8) .nili) (I.E0 s) (I.k0 + 1)):=by
 refine Ab ok.okN.k241 rfl fun x hx=>?_
 refine AK.up (N':=32) G8 ?_
 refine es 2000 ?_;(simp only [Oi,I.hdel0,hpc,seval])
 have zz:=@AP.eq_1;refine CV (B0 ok.okN g pc false xt A8) ?_
 (simp only [E7,seval])
 exact I.ret0 [_,_] (n:=100) hx BF ⟨rfl,rfl,rfl⟩ (by (simp only [F2,seval])) (by (simp only [F2,seval,LY])) Aj
theorem RN (ok:OkQ M) (I:MemI M) (g:Nat→BitVec 64) (pc:BitVec 64) (xt:BitVec 64) (s:I.σ) (hz:I.Z s) (hpc:¬ 8192#64≤pc) (e:Int) (he:(I.mm.rd s pc).2.1=some e) :
 Af M 241 [AP g pc false xt,.ifc I.t (.ptr 0 [])] (I.E0 s) I.k0 (Q3 (Ah (AP g pc false xt) (Cr (some e))) (I.E (I.mm.rd s pc).2.2 I.k0) (I.k0 + 1)):=by
 refine Ab ok.okN.k241 rfl fun x hx=>?_
 refine AK.up (N':=32) G8 ?_
 refine es 2000 ?_;(simp only [Oi,I.hdel0,hpc,seval])
 refine I.dynR0 [_,_] hz hpc BF ?_
 (simp only [he,AE,BV,List.nil_append,seval])
 exact I.ret [_,_] (q:=I.k0) ⟨Nat.le_refl _,by have:=I.hk;omega⟩ hx Aj BF ⟨rfl,rfl,rfl⟩ (by (simp only [F2,seval])) (by (simp only [F2,AE,seval,LY]))
theorem Uy (ok:OkQ M) (I:MemI M) (g:Nat→BitVec 64) (pc:BitVec 64) (xt:BitVec 64) (s:I.σ) (hz:I.Z s) (hpc:¬ 8192#64≤pc) (w:BitVec 64) (hw:(I.mm.rd s pc).1=w) (he:(I.mm.rd s pc).2.1=none) (s1:I.σ) (hs:(I.mm.rd s pc).2.2=s1) (h:¬ (BS w≤35∧w >>> 32 &&& 255#64=0#64)) :
 Af M 241 [AP g pc false xt,.ifc I.t (.ptr 0 [])] (I.E0 s) I.k0 (Q3 (Ah (AP g pc true A8) (Cr (none))) (I.E (s1) I.k0) (I.k0 + 1)):=by
 refine Ab ok.okN.k241 rfl fun x hx=>?_
 refine AK.up (N':=32) G8 ?_
 have a1:=Ao w 52
 have a2:=Ao w 48
 have a3:=Ao w 44
 have a4:=Ao w 40
 have hL:I.len s1≤100:=FU
 refine es 2000 ?_;(simp only [Oi,I.hdel0,hpc,seval])
 refine I.dynR0 [_,_] hz hpc BF ?_
 rw [hw,he,hs]
 (simp only [Jq,seval])
 refine Ai (H7 ok.ok.toOkV w h) ?_
 (simp only [LZ,seval])
 repeat refine sd ?_
 have zz:=@AP.eq_1;refine CV (B0 ok.okN g pc false xt A8) ?_
 (simp only [E7,seval])
 exact I.ret [_,_] (q:=I.k0) ⟨Nat.le_refl _,by have:=I.hk;omega⟩ hx Aj BF ⟨rfl,rfl,rfl⟩ (by (simp only [F2,seval])) (by (simp only [Sl,seval]))
theorem PP (ok:OkQ M) (I:MemI M) (g:Nat→BitVec 64) (pc:BitVec 64) (xt:BitVec 64) (s:I.σ) (hz:I.Z s) (hpc:¬ 8192#64≤pc) (w:BitVec 64) (hw:(I.mm.rd s pc).1=w) (he:(I.mm.rd s pc).2.1=none) (s1:I.σ) (hs:(I.mm.rd s pc).2.2=s1) (hop:BS w=0) (h2:w >>> 32 &&& 255#64=0#64) :
 Af M 241 [AP g pc false xt,.ifc I.t (.ptr 0 [])] (I.E0 s) I.k0 (Q3 (Ah (AP g pc true (g (pF w 48))) (Cr (none))) (I.E (s1) I.k0) (I.k0 + 1)):=by
 refine Ab ok.okN.k241 rfl fun x hx=>?_
 refine AK.up (N':=32) G8 ?_
 have a1:=Ao w 52
 have a2:=Ao w 48
 have a3:=Ao w 44
 have a4:=Ao w 40
 have hL:I.len s1≤100:=FU
 refine es 2000 ?_;(simp only [Oi,I.hdel0,hpc,seval])
 refine I.dynR0 [_,_] hz hpc BF ?_
 rw [hw,he,hs]
 (simp only [Jq,seval])
 have zz:=@Bn.eq_1;refine CV (A6 ok.ok.toOkV w Aa h2) ?_
 (simp only [He,hop,I.idsE,seval])
 repeat refine sd ?_
 have zz:=@AP.eq_1;refine Ng (B0 ok.okN g pc false xt (g (pF w 48))) ?_
 (simp only [E7,I.idsE,seval])
 exact I.ret [_,_] (q:=I.k0) ⟨Nat.le_refl _,by have:=I.hk;omega⟩ hx Aj BF ⟨rfl,rfl,rfl⟩ (by (simp only [F2,seval])) (by (simp only [Sl,seval]))
theorem Ur (ok:OkQ M) (I:MemI M) (g:Nat→BitVec 64) (pc:BitVec 64) (xt:BitVec 64) (s:I.σ) (hz:I.Z s) (hpc:¬ 8192#64≤pc) (w:BitVec 64) (hw:(I.mm.rd s pc).1=w) (he:(I.mm.rd s pc).2.1=none) (s1:I.σ) (hs:(I.mm.rd s pc).2.2=s1) (hop:BS w=26) (h2:w >>> 32 &&& 255#64=0#64) :
 Af M 241 [AP g pc false xt,.ifc I.t (.ptr 0 [])] (I.E0 s) I.k0 (Q3 (Ah (AP (Ig g (pF w 52) (BitVec.ofInt 64 (pN w))) (pc + 1#64) false xt) (Cr (none))) (I.E (s1) I.k0) (I.k0 + 1)):=by
 refine Ab ok.okN.k241 rfl fun x hx=>?_
 refine AK.up (N':=32) G8 ?_
 have a1:=Ao w 52
 have a2:=Ao w 48
 have a3:=Ao w 44
 have a4:=Ao w 40
 have hL:I.len s1≤100:=FU
 refine es 2000 ?_;(simp only [Oi,I.hdel0,hpc,seval])
 refine I.dynR0 [_,_] hz hpc BF ?_
 rw [hw,he,hs]
 (simp only [Jq,seval])
 have zz:=@Bn.eq_1;refine CV (A6 ok.ok.toOkV w Aa h2) ?_
 (simp only [He,hop,I.idsE,seval])
 repeat refine sd ?_
 exact I.ret [_,_] (q:=I.k0) ⟨Nat.le_refl _,by have:=I.hk;omega⟩ hx Aj BF ⟨rfl,rfl,rfl⟩ (by (simp only [F2,seval])) (by (simp only [Sl,seval]))
theorem MO (ok:OkQ M) (I:MemI M) (g:Nat→BitVec 64) (pc:BitVec 64) (xt:BitVec 64) (s:I.σ) (hz:I.Z s) (hpc:¬ 8192#64≤pc) (w:BitVec 64) (hw:(I.mm.rd s pc).1=w) (he:(I.mm.rd s pc).2.1=none) (s1:I.σ) (hs:(I.mm.rd s pc).2.2=s1) (op:Nat) (h1:1≤op) (h25:op≤25) (hop:BS w=op) (h2:w >>> 32 &&& 255#64=0#64) :
 Af M 241 [AP g pc false xt,.ifc I.t (.ptr 0 [])] (I.E0 s) I.k0 (Q3 (Ah (AP (Ig g (pF w 52) (apW op (g (pF w 48)) (g (pF w 44)) (g (pF w 40)))) (pc + 1#64) false xt) (Cr (none))) (I.E (s1) I.k0) (I.k0 + 1)):=by
 refine Ab ok.okN.k241 rfl fun x hx=>?_
 refine AK.up (N':=32) G8 ?_
 have a1:=Ao w 52
 have a2:=Ao w 48
 have a3:=Ao w 44
 have a4:=Ao w 40
 have hL:I.len s1≤100:=FU
 have d1:((op:Int)=0)=False:=eq_false Aa
 have d2:((op:Int) < 26)=True:=eq_true Aa
 refine es 2000 ?_;(simp only [Oi,I.hdel0,hpc,seval])
 refine I.dynR0 [_,_] hz hpc BF ?_
 rw [hw,he,hs]
 (simp only [Jq,seval])
 have zz:=@Bn.eq_1;refine CV (A6 ok.ok.toOkV w Aa h2) ?_
 (simp only [He,hop,d1,d2,I.idsE,seval])
 repeat refine sd ?_
 refine BC (GJ ok.okP op h1 h25 (g (pF w 48)) (g (pF w 44)) (g (pF w 40))) ?_
 (simp only [BV,I.idsE,seval])
 repeat refine sd ?_
 exact I.ret [_,_] (q:=I.k0) ⟨Nat.le_refl _,by have:=I.hk;omega⟩ hx Aj BF ⟨rfl,rfl,rfl⟩ (by (simp only [F2,seval])) (by (simp only [Sl,seval]))
theorem Sr (ok:OkQ M) (I:MemI M) (g:Nat→BitVec 64) (pc:BitVec 64) (xt:BitVec 64) (s:I.σ) (hz:I.Z s) (hpc:¬ 8192#64≤pc) (w:BitVec 64) (hw:(I.mm.rd s pc).1=w) (he:(I.mm.rd s pc).2.1=none) (s1:I.σ) (hs:(I.mm.rd s pc).2.2=s1) (hop:BS w=27) (h2:w >>> 32 &&& 255#64=0#64) (a:BitVec 64) (ha:g (pF w 48) + BitVec.ofInt 64 (pN w)=a) (hlt:8192#64≤a) :
 Af M 241 [AP g pc false xt,.ifc I.t (.ptr 0 [])] (I.E0 s) I.k0 (Q3 (Ah (AP g pc true A8) (Cr (none))) (I.E (s1) I.k0) (I.k0 + 1)):=by
 refine Ab ok.okN.k241 rfl fun x hx=>?_
 refine AK.up (N':=32) G8 ?_
 have a1:=Ao w 52
 have a2:=Ao w 48
 have a3:=Ao w 44
 have a4:=Ao w 40
 have hL:I.len s1≤100:=FU
 refine es 2000 ?_;(simp only [Oi,I.hdel0,hpc,seval])
 refine I.dynR0 [_,_] hz hpc BF ?_
 rw [hw,he,hs]
 (simp only [Jq,seval])
 have zz:=@Bn.eq_1;refine CV (A6 ok.ok.toOkV w Aa h2) ?_
 (simp only [He,hop,ha,hlt,I.idsE,seval])
 repeat refine sd ?_
 have zz:=@AP.eq_1;refine CV (B0 ok.okN g pc false xt A8) ?_
 (simp only [E7,seval])
 exact I.ret [_,_] (q:=I.k0) ⟨Nat.le_refl _,by have:=I.hk;omega⟩ hx Aj BF ⟨rfl,rfl,rfl⟩ (by (simp only [F2,seval])) (by (simp only [Sl,seval]))
theorem RG (ok:OkQ M) (I:MemI M) (g:Nat→BitVec 64) (pc:BitVec 64) (xt:BitVec 64) (s:I.σ) (hz:I.Z s) (hpc:¬ 8192#64≤pc) (w:BitVec 64) (hw:(I.mm.rd s pc).1=w) (he:(I.mm.rd s pc).2.1=none) (s1:I.σ) (hs:(I.mm.rd s pc).2.2=s1) (hop:BS w=28) (h2:w >>> 32 &&& 255#64=0#64) (a:BitVec 64) (ha:g (pF w 48) + BitVec.ofInt 64 (pN w)=a) (hlt:8192#64≤a) :
 Af M 241 [AP g pc false xt,.ifc I.t (.ptr 0 [])] (I.E0 s) I.k0 (Q3 (Ah (AP g pc true A8) (Cr (none))) (I.E (s1) I.k0) (I.k0 + 1)):=by
 refine Ab ok.okN.k241 rfl fun x hx=>?_
 refine AK.up (N':=32) G8 ?_
 have a1:=Ao w 52
 have a2:=Ao w 48
 have a3:=Ao w 44
 have a4:=Ao w 40
 have hL:I.len s1≤100:=FU
 refine es 2000 ?_;(simp only [Oi,I.hdel0,hpc,seval])
 refine I.dynR0 [_,_] hz hpc BF ?_
 rw [hw,he,hs]
 (simp only [Jq,seval])
 have zz:=@Bn.eq_1;refine CV (A6 ok.ok.toOkV w Aa h2) ?_
 (simp only [He,hop,ha,hlt,I.idsE,seval])
 repeat refine sd ?_
 have zz:=@AP.eq_1;refine CV (B0 ok.okN g pc false xt A8) ?_
 (simp only [E7,seval])
 exact I.ret [_,_] (q:=I.k0) ⟨Nat.le_refl _,by have:=I.hk;omega⟩ hx Aj BF ⟨rfl,rfl,rfl⟩ (by (simp only [F2,seval])) (by (simp only [Sl,seval]))
theorem Vo (ok:OkQ M) (I:MemI M) (g:Nat→BitVec 64) (pc:BitVec 64) (xt:BitVec 64) (s:I.σ) (hz:I.Z s) (hpc:¬ 8192#64≤pc) (w:BitVec 64) (hw:(I.mm.rd s pc).1=w) (he:(I.mm.rd s pc).2.1=none) (s1:I.σ) (hs:(I.mm.rd s pc).2.2=s1) (hop:BS w=27) (h2:w >>> 32 &&& 255#64=0#64) (a:BitVec 64) (ha:g (pF w 48) + BitVec.ofInt 64 (pN w)=a) (hlt:¬ 8192#64≤a) (he2:(I.mm.rd s1 a).2.1=none) :
 Af M 241 [AP g pc false xt,.ifc I.t (.ptr 0 [])] (I.E0 s) I.k0 (Q3 (Ah (AP (Ig g (pF w 52) (I.mm.rd s1 a).1) (pc + 1#64) false xt) (Cr (none))) (I.E ((I.mm.rd s1 a).2.2) I.k0) (I.k0 + 1)):=by
 refine Ab ok.okN.k241 rfl fun x hx=>?_
 refine AK.up (N':=32) G8 ?_
 have a1:=Ao w 52
 have a2:=Ao w 48
 have a3:=Ao w 44
 have a4:=Ao w 40
 have hL:I.len s1≤100:=FU
 refine es 2000 ?_;(simp only [Oi,I.hdel0,hpc,seval])
 refine I.dynR0 [_,_] hz hpc BF ?_
 rw [hw,he,hs]
 (simp only [Jq,seval])
 have zz:=@Bn.eq_1;refine CV (A6 ok.ok.toOkV w Aa h2) ?_
 (simp only [He,hop,ha,hlt,I.idsE,seval])
 repeat refine sd ?_
 refine I.opyR [_,_] hL hlt Aj BF ?_
 (simp only [he2,Jq,AE,I.idsE,seval])
 repeat refine sd ?_
 exact I.ret [_,_] (q:=I.k0) ⟨Nat.le_refl _,by have:=I.hk;omega⟩ hx Aj BF ⟨rfl,rfl,rfl⟩ (by (simp only [F2,seval])) (by (simp only [Sl,seval]))
theorem Si (ok:OkQ M) (I:MemI M) (g:Nat→BitVec 64) (pc:BitVec 64) (xt:BitVec 64) (s:I.σ) (hz:I.Z s) (hpc:¬ 8192#64≤pc) (w:BitVec 64) (hw:(I.mm.rd s pc).1=w) (he:(I.mm.rd s pc).2.1=none) (s1:I.σ) (hs:(I.mm.rd s pc).2.2=s1) (hop:BS w=27) (h2:w >>> 32 &&& 255#64=0#64) (a:BitVec 64) (ha:g (pF w 48) + BitVec.ofInt 64 (pN w)=a) (hlt:¬ 8192#64≤a) (e:Int) (he2:(I.mm.rd s1 a).2.1=some e) :
 Af M 241 [AP g pc false xt,.ifc I.t (.ptr 0 [])] (I.E0 s) I.k0 (Q3 (Ah (AP (Ig g (pF w 52) (I.mm.rd s1 a).1) (pc + 1#64) false xt) (Cr (some e))) (I.E ((I.mm.rd s1 a).2.2) I.k0) (I.k0 + 1)):=by
 refine Ab ok.okN.k241 rfl fun x hx=>?_
 refine AK.up (N':=32) G8 ?_
 have a1:=Ao w 52
 have a2:=Ao w 48
 have a3:=Ao w 44
 have a4:=Ao w 40
 have hL:I.len s1≤100:=FU
 refine es 2000 ?_;(simp only [Oi,I.hdel0,hpc,seval])
 refine I.dynR0 [_,_] hz hpc BF ?_
 rw [hw,he,hs]
 (simp only [Jq,seval])
 have zz:=@Bn.eq_1;refine CV (A6 ok.ok.toOkV w Aa h2) ?_
 (simp only [He,hop,ha,hlt,I.idsE,seval])
 repeat refine sd ?_
 refine I.opyR [_,_] hL hlt Aj BF ?_
 (simp only [he2,Jq,AE,I.idsE,seval])
 repeat refine sd ?_
 exact I.ret [_,_] (q:=I.k0) ⟨Nat.le_refl _,by have:=I.hk;omega⟩ hx Aj BF ⟨rfl,rfl,rfl⟩ (by (simp only [F2,seval])) (by (simp only [Sl,seval]))
theorem Up (ok:OkQ M) (I:MemI M) (g:Nat→BitVec 64) (pc:BitVec 64) (xt:BitVec 64) (s:I.σ) (hz:I.Z s) (hpc:¬ 8192#64≤pc) (w:BitVec 64) (hw:(I.mm.rd s pc).1=w) (he:(I.mm.rd s pc).2.1=none) (s1:I.σ) (hs:(I.mm.rd s pc).2.2=s1) (hop:BS w=28) (h2:w >>> 32 &&& 255#64=0#64) (a:BitVec 64) (ha:g (pF w 48) + BitVec.ofInt 64 (pN w)=a) (hlt:¬ 8192#64≤a) (he2:(I.mm.wr s1 a (g (pF w 44))).1=none) :
 Af M 241 [AP g pc false xt,.ifc I.t (.ptr 0 [])] (I.E0 s) I.k0 (Q3 (Ah (AP g (pc + 1#64) false xt) (Cr (none))) (I.E ((I.mm.wr s1 a (g (pF w 44))).2) I.k0) (I.k0 + 1)):=by
 refine Ab ok.okN.k241 rfl fun x hx=>?_
 refine AK.up (N':=32) G8 ?_
 have a1:=Ao w 52
 have a2:=Ao w 48
 have a3:=Ao w 44
 have a4:=Ao w 40
 have hL:I.len s1≤100:=FU
 refine es 2000 ?_;(simp only [Oi,I.hdel0,hpc,seval])
 refine I.dynR0 [_,_] hz hpc BF ?_
 rw [hw,he,hs]
 (simp only [Jq,seval])
 have zz:=@Bn.eq_1;refine CV (A6 ok.ok.toOkV w Aa h2) ?_
 (simp only [He,hop,ha,hlt,I.nil_in,I.idsE,seval])
 repeat refine sd ?_
 refine I.opyW [_,_] hL hlt Aj BF ?_
 (simp only [he2,Jq,AE,I.idsE,seval])
 repeat refine sd ?_
 exact I.ret [_,_] (q:=I.k0) ⟨Nat.le_refl _,by have:=I.hk;omega⟩ hx Aj BF ⟨rfl,rfl,rfl⟩ (by (simp only [F2,seval])) (by (simp only [Sl,seval]))
theorem Sa (ok:OkQ M) (I:MemI M) (g:Nat→BitVec 64) (pc:BitVec 64) (xt:BitVec 64) (s:I.σ) (hz:I.Z s) (hpc:¬ 8192#64≤pc) (w:BitVec 64) (hw:(I.mm.rd s pc).1=w) (he:(I.mm.rd s pc).2.1=none) (s1:I.σ) (hs:(I.mm.rd s pc).2.2=s1) (hop:BS w=28) (h2:w >>> 32 &&& 255#64=0#64) (a:BitVec 64) (ha:g (pF w 48) + BitVec.ofInt 64 (pN w)=a) (hlt:¬ 8192#64≤a) (e:Int) (he2:(I.mm.wr s1 a (g (pF w 44))).1=some e) :
 Af M 241 [AP g pc false xt,.ifc I.t (.ptr 0 [])] (I.E0 s) I.k0 (Q3 (Ah (AP g (pc + 1#64) false xt) (Cr (some e))) (I.E ((I.mm.wr s1 a (g (pF w 44))).2) I.k0) (I.k0 + 1)):=by
 refine Ab ok.okN.k241 rfl fun x hx=>?_
 refine AK.up (N':=32) G8 ?_
 have a1:=Ao w 52
 have a2:=Ao w 48
 have a3:=Ao w 44
 have a4:=Ao w 40
 have hL:I.len s1≤100:=FU
 refine es 2000 ?_;(simp only [Oi,I.hdel0,hpc,seval])
 refine I.dynR0 [_,_] hz hpc BF ?_
 rw [hw,he,hs]
 (simp only [Jq,seval])
 have zz:=@Bn.eq_1;refine CV (A6 ok.ok.toOkV w Aa h2) ?_
 (simp only [He,hop,ha,hlt,I.nil_in,I.idsE,seval])
 repeat refine sd ?_
 refine I.opyW [_,_] hL hlt Aj BF ?_
 (simp only [he2,Jq,AE,I.idsE,seval])
 repeat refine sd ?_
 exact I.ret [_,_] (q:=I.k0) ⟨Nat.le_refl _,by have:=I.hk;omega⟩ hx Aj BF ⟨rfl,rfl,rfl⟩ (by (simp only [F2,seval])) (by (simp only [Sl,seval]))
theorem Po (ok:OkQ M) (I:MemI M) (g:Nat→BitVec 64) (pc:BitVec 64) (xt:BitVec 64) (s:I.σ) (hz:I.Z s) (hpc:¬ 8192#64≤pc) (w:BitVec 64) (hw:(I.mm.rd s pc).1=w) (he:(I.mm.rd s pc).2.1=none) (s1:I.σ) (hs:(I.mm.rd s pc).2.2=s1) (op:Nat) (ho:op=29 ∨ op=30 ∨ op=31 ∨ op=32 ∨ op=33) (hop:BS w=op) (h2:w >>> 32 &&& 255#64=0#64) :
 Af M 241 [AP g pc false xt,.ifc I.t (.ptr 0 [])] (I.E0 s) I.k0 (Q3 (Ah ((Lu op ⟨g,pc,false,xt⟩ (pF w 52) (pF w 48) (BitVec.ofInt 64 (pN w))).v) (Cr (none))) (I.E (s1) I.k0) (I.k0 + 1)):=by
 refine Ab ok.okN.k241 rfl fun x hx=>?_
 refine AK.up (N':=32) G8 ?_
 have a1:=Ao w 52
 have a2:=Ao w 48
 have a3:=Ao w 44
 have a4:=Ao w 40
 have hL:I.len s1≤100:=FU
 have d1:((op:Int)=0)=False:=eq_false Aa
 have d2:((op:Int) < 26)=False:=eq_false Aa
 have d3:((op:Int)=26)=False:=eq_false Aa
 have d4:((op:Int)=27)=False:=eq_false Aa
 have d5:((op:Int)=28)=False:=eq_false Aa
 have d6:((op:Int) < 34)=True:=eq_true Aa
 refine es 2000 ?_;(simp only [Oi,I.hdel0,hpc,seval])
 refine I.dynR0 [_,_] hz hpc BF ?_
 rw [hw,he,hs]
 (simp only [Jq,seval])
 have zz:=@Bn.eq_1;refine CV (A6 ok.ok.toOkV w Aa h2) ?_
 (simp only [He,hop,d1,d2,d3,d4,d5,d6,I.idsE,seval])
 repeat refine sd ?_
 have hJ:=O7 ok.okN op ho g pc false xt (pF w 52) (pF w 48) a1 a2 (BitVec.ofInt 64 (pN w))
 generalize Lu op ⟨g,pc,false,xt⟩ (pF w 52) (pF w 48) (BitVec.ofInt 64 (pN w))=j at *
 unfold Hd.v at hJ
 have zz:=@AP.eq_1;refine CV (hJ) ?_
 (simp only [E7,seval])
 exact I.ret [_,_] (q:=I.k0) ⟨Nat.le_refl _,by have:=I.hk;omega⟩ hx Aj BF ⟨rfl,rfl,rfl⟩ (by (simp only [F2,seval])) (by (simp only [Sl,seval]))
end Mv
