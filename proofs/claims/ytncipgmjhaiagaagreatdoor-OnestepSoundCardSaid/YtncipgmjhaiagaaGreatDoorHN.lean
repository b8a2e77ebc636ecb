/- A part. -/
import Derived.Test.YtncipgmjhaiagaaGreatDoorHM
set_option linter.all false
set_option maxRecDepth 20000
set_option maxHeartbeats 4000000
namespace Mv
open Go
variable {M:Seat}
structure OkRM (M:Seat):Prop where
 k240:Al M 240 Af8=true
 k342:Al M 342 Ago=true
 k343:Al M 343 Ahm=true
 k344:Al M 344 Ahl=true
 rp:OkRP M
 x:OkX M
def Cc (f g:Nat→BitVec 64) (pc:BitVec 64) (hl:Bool) (xt:BitVec 64):Hp :=
 [(0,Ba 1 2 pc hl xt),(1,.ar 1 8192 (fun j=>W (f j))),(2,.ar 1 16 (fun j=>W (g j)))]
def N7:=(aq4 @Fj @Aki.eq_1 @Af8.eq_1 @Cc.eq_1)
theorem Anp (w:BitVec 64):rpt w 0=(AT w:Nat):=rfl
theorem Anf (w:BitVec 64):rpt w 1=(pF w 52:Nat):=rfl
theorem Am6 (w:BitVec 64):rpt w 2=(pF w 48:Nat):=rfl
theorem Anb (w:BitVec 64):rpt w 3=(pF w 44:Nat):=rfl
def Im:=(aq5 @Anp @Anf @Am6 @Anb @BD.eq_1)
theorem Al4 (w:BitVec 64):rpt w 4=(pF w 40:Nat):=rfl
def Jc:=(aq3 @Im @Fj @Al4)
theorem Bq (ok:OkRM M) (pc xt e:BitVec 64) (hl:Bool) :
 Af M 342 [.ptr 0 [],W e] [(0,Ba 1 2 pc hl xt)] 3 (Q3 (.tup .fnil) [(0,Ba 1 2 pc true e)] 3):=by
 refine Ac ok.k342 rfl fun x hx=>?_
 refine es 2000 ?_;(simp only [Ago,Aku,Fj,seval])
 have zz:=@Ba.eq_1;exact Bg hx [0,1,2] ⟨rfl,rfl,rfl⟩
theorem ML (ok:OkRM M) (f g:Nat→BitVec 64) (pc xt:BitVec 64) :
 Af M 240 [.ptr 0 [],.ptr 3 []] (Cc f g pc true xt) 4 (Q3 (.tup .fnil) (Cc f g pc true xt) 4):=by
 refine Ac ok.k240 rfl fun x hx=>?_
 refine es 2000 ?_;(simp only [N7,seval])
 have zz:=@Ba.eq_1;exact Bg hx [0,1,2,3] ⟨rfl,rfl,rfl⟩
theorem Ug (ok:OkRM M) (f g:Nat→BitVec 64) (pc xt:BitVec 64) (hpc:8192#64≤pc) :
 Af M 240 [.ptr 0 [],.ptr 3 []] (Cc f g pc false xt) 4 (Q3 (.tup .fnil) (Cc f g pc true Ap) 4):=by
 refine Ac ok.k240 rfl fun x hx=>?_
 refine es 2000 ?_;(simp only [N7,eq_true hpc,seval])
 have zz:=@Ba.eq_1;refine JO [0,1,2] [0] (Bq ok pc xt Ap false) ?_
 (simp only [Fj,seval])
 have zz:=@Ba.eq_1;exact Bg hx [0,1,2,3] ⟨rfl,rfl,rfl⟩
theorem Ut (ok:OkRM M) (f g:Nat→BitVec 64) (pc xt:BitVec 64) (hpc:¬ 8192#64≤pc) (w:BitVec 64) (hw:f pc.toNat=w) (h:Co w=false) :
 Af M 240 [.ptr 0 [],.ptr 3 []] (Cc f g pc false xt) 4 (Q3 (.tup .fnil) (Cc f g pc true Ap) 4):=by
 refine Ac ok.k240 rfl fun x hx=>?_
 have hp:pc.toNat < 8192:=BM
 refine es 2000 ?_;(simp only [N7,hpc,hw,seval])
 repeat refine sd ?_
 have zz:=@BD.eq_1;refine IM (Jq ok.rp w h) ?_
 (simp only [BD,Fj,seval])
 have zz:=@Ba.eq_1;refine JO [0,1,2] [0] (Bq ok pc xt Ap false) ?_
 (simp only [Fj,seval])
 have zz:=@Ba.eq_1;exact Bg hx [0,1,2,3] ⟨rfl,rfl,rfl⟩
theorem RE (ok:OkRM M) (f g:Nat→BitVec 64) (pc xt:BitVec 64) (hpc:¬ 8192#64≤pc) (w:BitVec 64) (hw:f pc.toNat=w) (hop:AT w=0) (h:Co w=true) :
 Af M 240 [.ptr 0 [],.ptr 3 []] (Cc f g pc false xt) 4 (Q3 (.tup .fnil) (Cc f g pc true (g (pF w 48))) 4):=by
 refine Ac ok.k240 rfl fun x hx=>?_
 have hp:pc.toNat < 8192:=BM
 have a1:=Ai w 52
 have a2:=Ai w 48
 have a3:=Ai w 44
 refine es 2000 ?_;(simp only [N7,hpc,hw,seval])
 repeat refine sd ?_
 have zz:=Im;refine IM (As ok.rp w h) ?_
 (simp only [Im,Fj,hop,seval])
 repeat refine sd ?_
 have zz:=@Ba.eq_1;refine JO [0,1,2] [0] (Bq ok pc xt (g (pF w 48)) false) ?_
 (simp only [Fj,seval])
 have zz:=@Ba.eq_1;exact Bg hx [0,1,2,3] ⟨rfl,rfl,rfl⟩
theorem PU (ok:OkRM M) (f g:Nat→BitVec 64) (pc xt:BitVec 64) (hpc:¬ 8192#64≤pc) (w:BitVec 64) (hw:f pc.toNat=w) (op:Nat) (h1:1≤op) (h25:op≤25) (hop:AT w=op) (h:Co w=true) :
 Af M 240 [.ptr 0 [],.ptr 3 []] (Cc f g pc false xt) 4 (Q3 (.tup .fnil) (Cc f (E9 g (pF w 52) (P1 op (g (pF w 48)) (g (pF w 44)) (g (pF w 40)))) (pc + 1#64) false xt) 4):=by
 have hv:=N6 ok.x op h1 h25 (g (pF w 48)) (g (pF w 44)) (g (pF w 40))
 refine Ac ok.k240 rfl fun x hx=>?_
 have hp:pc.toNat < 8192:=BM
 have a1:=Ai w 52
 have a2:=Ai w 48
 have a3:=Ai w 44
 have a4:=Ai w 40
 have d1:((op:Int)=0)=False:=eq_false Aa
 have d2:((op:Int)≤25)=True:=eq_true Aa
 refine es 2000 ?_;(simp only [N7,hpc,hw,seval])
 repeat refine sd ?_
 have zz:=Im;refine IM (As ok.rp w h) ?_
 (simp only [Jc,hop,d1,d2,seval])
 repeat refine sd ?_
 refine Ah (hv) ?_
 (simp only [Cb,Im,Al4,Ba,seval])
 repeat refine sd ?_
 have zz:=aq2 @Ba.eq_1 Og;exact Bg hx [0,1,2,3] ⟨rfl,rfl,rfl⟩
theorem Vt (ok:OkRM M) (f g:Nat→BitVec 64) (pc xt:BitVec 64) (hpc:¬ 8192#64≤pc) (w:BitVec 64) (hw:f pc.toNat=w) (hop:AT w=26) (h:Co w=true) :
 Af M 240 [.ptr 0 [],.ptr 3 []] (Cc f g pc false xt) 4 (Q3 (.tup .fnil) (Cc f (E9 g (pF w 52) (BitVec.ofInt 64 (pN w))) (pc + 1#64) false xt) 4):=by
 refine Ac ok.k240 rfl fun x hx=>?_
 have hp:pc.toNat < 8192:=BM
 have a1:=Ai w 52
 have a2:=Ai w 48
 have a3:=Ai w 44
 refine es 2000 ?_;(simp only [N7,hpc,hw,seval])
 repeat refine sd ?_
 have zz:=Im;refine IM (As ok.rp w h) ?_
 (simp only [Jc,hop,seval])
 repeat refine sd ?_
 have zz:=aq2 @Ba.eq_1 Og;exact Bg hx [0,1,2,3] ⟨rfl,rfl,rfl⟩
theorem Jv (ok:OkRM M) (f g:Nat→BitVec 64) (pc xt:BitVec 64) (hpc:¬ 8192#64≤pc) (w:BitVec 64) (hw:f pc.toNat=w) (hop:AT w=27) (h:Co w=true) (hx2:8192#64≤g (pF w 48) + BitVec.ofInt 64 (pN w)) :
 Af M 240 [.ptr 0 [],.ptr 3 []] (Cc f g pc false xt) 4 (Q3 (.tup .fnil) (Cc f g pc true Ap) 4):=by
 refine Ac ok.k240 rfl fun x hx=>?_
 have hp:pc.toNat < 8192:=BM
 have a1:=Ai w 52
 have a2:=Ai w 48
 have a3:=Ai w 44
 refine es 2000 ?_;(simp only [N7,hpc,hw,seval])
 repeat refine sd ?_
 have zz:=Im;refine IM (As ok.rp w h) ?_
 (simp only [Jc,hop,eq_true hx2,seval])
 repeat refine sd ?_
 have zz:=@Ba.eq_1;refine JO [0,1,2] [0] (Bq ok pc xt Ap false) ?_
 (simp only [Fj,seval])
 have zz:=@Ba.eq_1;exact Bg hx [0,1,2,3] ⟨rfl,rfl,rfl⟩
theorem IE (ok:OkRM M) (f g:Nat→BitVec 64) (pc xt:BitVec 64) (hpc:¬ 8192#64≤pc) (w:BitVec 64) (hw:f pc.toNat=w) (hop:AT w=28) (h:Co w=true) (hx2:8192#64≤g (pF w 48) + BitVec.ofInt 64 (pN w)) :
 Af M 240 [.ptr 0 [],.ptr 3 []] (Cc f g pc false xt) 4 (Q3 (.tup .fnil) (Cc f g pc true Ap) 4):=by
 refine Ac ok.k240 rfl fun x hx=>?_
 have hp:pc.toNat < 8192:=BM
 have a1:=Ai w 52
 have a2:=Ai w 48
 have a3:=Ai w 44
 refine es 2000 ?_;(simp only [N7,hpc,hw,seval])
 repeat refine sd ?_
 have zz:=Im;refine IM (As ok.rp w h) ?_
 (simp only [Jc,hop,eq_true hx2,seval])
 repeat refine sd ?_
 have zz:=@Ba.eq_1;refine JO [0,1,2] [0] (Bq ok pc xt Ap false) ?_
 (simp only [Fj,seval])
 have zz:=@Ba.eq_1;exact Bg hx [0,1,2,3] ⟨rfl,rfl,rfl⟩
theorem QS (ok:OkRM M) (f g:Nat→BitVec 64) (pc xt:BitVec 64) (hpc:¬ 8192#64≤pc) (w:BitVec 64) (hw:f pc.toNat=w) (hop:AT w=27) (h:Co w=true) (hx2:¬ 8192#64≤g (pF w 48) + BitVec.ofInt 64 (pN w)) :
 Af M 240 [.ptr 0 [],.ptr 3 []] (Cc f g pc false xt) 4 (Q3 (.tup .fnil) (Cc f (E9 g (pF w 52) (f (g (pF w 48) + BitVec.ofInt 64 (pN w)).toNat)) (pc + 1#64) false xt) 4):=by
 refine Ac ok.k240 rfl fun x hx=>?_
 have hp:pc.toNat < 8192:=BM
 have a1:=Ai w 52
 have a2:=Ai w 48
 have a3:=Ai w 44
 have a5:=Ql _ hx2
 refine es 2000 ?_;(simp only [N7,hpc,hw,seval])
 repeat refine sd ?_
 have zz:=Im;refine IM (As ok.rp w h) ?_
 (simp only [Jc,hop,eq_false hx2,seval])
 repeat refine sd ?_
 have zz:=aq2 @Ba.eq_1 Og;exact Bg hx [0,1,2,3] ⟨rfl,rfl,rfl⟩
theorem Oj (ok:OkRM M) (f g:Nat→BitVec 64) (pc xt:BitVec 64) (hpc:¬ 8192#64≤pc) (w:BitVec 64) (hw:f pc.toNat=w) (hop:AT w=28) (h:Co w=true) (hx2:¬ 8192#64≤g (pF w 48) + BitVec.ofInt 64 (pN w)) :
 Af M 240 [.ptr 0 [],.ptr 3 []] (Cc f g pc false xt) 4 (Q3 (.tup .fnil) (Cc (E9 f (g (pF w 48) + BitVec.ofInt 64 (pN w)).toNat (g (pF w 44))) g (pc + 1#64) false xt) 4):=by
 refine Ac ok.k240 rfl fun x hx=>?_
 have hp:pc.toNat < 8192:=BM
 have a1:=Ai w 52
 have a2:=Ai w 48
 have a3:=Ai w 44
 have a5:=Ql _ hx2
 refine es 2000 ?_;(simp only [N7,hpc,hw,seval])
 repeat refine sd ?_
 have zz:=Im;refine IM (As ok.rp w h) ?_
 (simp only [Jc,hop,eq_false hx2,seval])
 repeat refine sd ?_
 have zz:=aq2 @Ba.eq_1 Og;exact Bg hx [0,1,2,3] ⟨rfl,rfl,rfl⟩
variable {M:Seat}
theorem Dr (ok:OkRM M) (f g:Nat→BitVec 64) (pc xt:BitVec 64) (hpc:¬ 8192#64≤pc) (w:BitVec 64) (hw:f pc.toNat=w) (h:Co w=true) (to ga:BitVec 64) (hto:BitVec.ofInt 64 (pN w)=to) (hga:g (pF w 48)=ga)
 (ho:(AT w=29∧8192#64≤to) ∨ (AT w=30∧ga=0#64∧8192#64≤to) ∨ (AT w=31∧¬ ga=0#64∧8192#64≤to) ∨ (AT w=32∧8192#64≤to) ∨ (AT w=33∧8192#64≤ga)) :
 Af M 240 [.ptr 0 [],.ptr 3 []] (Cc f g pc false xt) 4 (Q3 (.tup .fnil) (Cc f g pc true Ap) 4):=by
 refine Ac ok.k240 rfl fun x hx=>?_
 have hp:pc.toNat < 8192:=BM
 have a1:=Ai w 52
 have a2:=Ai w 48
 have a3:=Ai w 44
 have e1:(pc + 1#64=pc + 1#64)=True:=eq_true rfl
 by_cases h5:(if AT w=33 then ga else to)=pc + 1#64 <;> rcases ho with ⟨hop,h1⟩ | ⟨hop,h0,h1⟩ | ⟨hop,h0,h1⟩ | ⟨hop,h1⟩ | ⟨hop,h1⟩
 all_goals simp only [hop,seval,CD] at h5
 all_goals first | (subst h5;have h5:=e1) | skip
 all_goals try simp only [h0] at hga
 all_goals
  refine es 2000 ?_;(simp only [N7,hpc,hw,seval])
  repeat refine sd ?_
  have zz:=Im;refine IM (As ok.rp w h) ?_
  (first | (have hh0:=h0;(simp only [Jc,hop,hga,hto,hh0,h1,h5,seval])) | ((simp only [Jc,hop,hga,hto,h1,h5,seval])))
  repeat refine sd ?_
  have zz:=@Ba.eq_1;refine JO [0,1,2] [0] (Bq ok pc xt Ap false) ?_
  (simp only [Fj,seval])
  have zz:=@Ba.eq_1;exact Bg hx [0,1,2,3] ⟨rfl,rfl,rfl⟩
theorem EH (ok:OkRM M) (f g:Nat→BitVec 64) (pc xt:BitVec 64) (hpc:¬ 8192#64≤pc) (w:BitVec 64) (hw:f pc.toNat=w) (h:Co w=true) (to ga nx:BitVec 64) (hto:BitVec.ofInt 64 (pN w)=to) (hga:g (pF w 48)=ga) (hnx:¬ 8192#64≤nx)
 (ho:(AT w=29∧to=nx) ∨ (AT w=30∧ga=0#64∧to=nx) ∨ (AT w=31∧¬ ga=0#64∧to=nx) ∨ (AT w=33∧ga=nx)) :
 Af M 240 [.ptr 0 [],.ptr 3 []] (Cc f g pc false xt) 4 (Q3 (.tup .fnil) (Cc f g nx false xt) 4):=by
 refine Ac ok.k240 rfl fun x hx=>?_
 have hp:pc.toNat < 8192:=BM
 have a1:=Ai w 52
 have a2:=Ai w 48
 have a3:=Ai w 44
 rcases ho with ⟨hop,rfl⟩ | ⟨hop,h0,rfl⟩ | ⟨hop,h0,rfl⟩ | ⟨hop,rfl⟩
 all_goals
  refine es 2000 ?_;(simp only [N7,hpc,hw,seval])
  repeat refine sd ?_
  have zz:=Im;refine IM (As ok.rp w h) ?_
  (first | (have hh0:=h0;(simp only [Jc,hop,hga,hto,hh0,hnx,seval])) | ((simp only [Jc,hop,hga,hto,hnx,seval])))
  repeat refine sd ?_
  have zz:=@Ba.eq_1;exact Bg hx [0,1,2,3] ⟨rfl,rfl,rfl⟩
theorem TE (ok:OkRM M) (f g:Nat→BitVec 64) (pc xt:BitVec 64) (hpc:¬ 8192#64≤pc) (w:BitVec 64) (hw:f pc.toNat=w) (h:Co w=true) (to:BitVec 64) (hto:BitVec.ofInt 64 (pN w)=to) (hnx:¬ 8192#64≤to) (hop:AT w=32) :
 Af M 240 [.ptr 0 [],.ptr 3 []] (Cc f g pc false xt) 4 (Q3 (.tup .fnil) (Cc f (E9 g (pF w 52) (pc + 1#64)) to false xt) 4):=by
 refine Ac ok.k240 rfl fun x hx=>?_
 have hp:pc.toNat < 8192:=BM
 have a1:=Ai w 52
 have a2:=Ai w 48
 have a3:=Ai w 44
 refine es 2000 ?_;(simp only [N7,hpc,hw,seval])
 repeat refine sd ?_
 have zz:=Im;refine IM (As ok.rp w h) ?_
 (simp only [Jc,hop,hto,hnx,seval])
 repeat refine sd ?_
 have zz:=aq2 @Ba.eq_1 Og;exact Bg hx [0,1,2,3] ⟨rfl,rfl,rfl⟩
theorem KK (ok:OkRM M) (f g:Nat→BitVec 64) (pc xt:BitVec 64) (hpc:¬ 8192#64≤pc) (w:BitVec 64) (hw:f pc.toNat=w) (h:Co w=true) (ga:BitVec 64) (hga:g (pF w 48)=ga)
 (ho:(AT w=30∧¬ ga=0#64) ∨ (AT w=31∧ga=0#64)) :
 Af M 240 [.ptr 0 [],.ptr 3 []] (Cc f g pc false xt) 4 (Q3 (.tup .fnil) (Cc f g (pc + 1#64) false xt) 4):=by
 refine Ac ok.k240 rfl fun x hx=>?_
 have hp:pc.toNat < 8192:=BM
 have a1:=Ai w 52
 have a2:=Ai w 48
 have a3:=Ai w 44
 have e1:(pc + 1#64=pc + 1#64)=True:=eq_true rfl
 by_cases h6:8192#64≤pc + 1#64 <;> rcases ho with ⟨hop,h0⟩ | ⟨hop,h0⟩
 all_goals
  refine es 2000 ?_;(simp only [N7,hpc,hw,seval])
  repeat refine sd ?_
  have zz:=Im;refine IM (As ok.rp w h) ?_
  (simp only [Jc,hop,hga,h0,h6,e1,seval])
  repeat refine sd ?_
  have zz:=@Ba.eq_1;exact Bg hx [0,1,2,3] ⟨rfl,rfl,rfl⟩
def c73:LC:=(sr [A1 2 (.mv (.c .nilp)),A1 3 (.mv (.c .nilp))] (sr [kl 8 68 [],kl 9 218 [],mt 4 8,mt 5 9] (.seq (sr [mt 10 4,A1 11 (.eq false true .ptr (.t 10) (.c .nilp))] (.cond (.t 11) (sr [mt 12 5,A1 2 (.mv (.c .nilp)),mt 3 12] .ret) .skip)) (.seq (sr [mt 13 0,
  lN 14 0 13,
  mI 15 0] (.block 0 (.loop (sr [ak 16 .lss 15 14] (.seq (cXx 16 0) (.seq (.block 1 (sr [mt 17 15,ia 18 64 13 15,la 19 64 18,
  aB 7 64,mt 6 17,sb 64 7 19] (.seq (sr [mt 20 6,aI 21 .geq 20 50] (.cond (.t 21) (.exit 0) .skip)) (sr [mt 22 4,la 23 64 7,kl 24 212 [(.t 22),(.t 23)]] (.reg [mt 25 5,la 26 64 7,kl 27 219 [(.t 25),(.t 26)]]))))) (.reg [aI 28 .add 15 1,mt 15 28]))))))) (sr [mt 29 4,mt 30 5,mt 2 29,mt 3 30] .ret)))))
def f73:LF:=⟨c73,1,0,31,[.tmp 2,.tmp 3]⟩
def Akw:LC:=(sr [A1 0 (.mv (.c .nilp))] (sr [A1 4 (.build (.st (.cons .slice (.cons .slice (.cons .slice (.cons .bool .nil))))) []),
  bX 5 4,mt 1 5] (sr [kl 6 205 [],mt 2 6] (.seq (sr [mI 3 0] (.block 0 (.loop (.seq (sr [mt 7 3,aI 8 .lss 7 16]
 (cXx 8 0)) (.seq (.block 1 (.regd [⟨1,0,mt 12 2⟩,⟨2,0,mt 13 3⟩,⟨3,3,ia 14 32 12 13⟩,⟨4,7,la 15 32 14⟩,⟨5,0,mt 16 2⟩,⟨6,0,mt 17 3⟩,⟨7,48,ia 18 32 16 17⟩,⟨8,112,la 19 32 18⟩,⟨9,255,kl 20 329 [(.t 15),(.t 19)]⟩,⟨0,0,mt 11 1⟩,⟨10,1023,kl 21 219 [(.t 11),(.t 20)]⟩])) (.reg [mt 9 3,aI 10 .add 9 1,mt 3 10])))))) (sr [mt 22 1,mt 0 22] .ret)))))
def Ahk:LF:=⟨Akw,0,0,23,[.tmp 0]⟩
def TG:LC:=(sr [bX 3 1,
 aB 4 32] (sr [A1 7 (.slarr 64 1 (.t 3) none none),kl 8 311 [(.t 7)],
  aB 5 32,sb 32 5 8] (sr [mt 9 0,la 10 32 5,kl 11 330 [(.t 9),(.t 10)],mt 6 11] (.seq (sr [mt 12 6,aI 13 .lss 12 0] (.cond (.t 13) (.seq (.regd [⟨1,0,mt 15 0⟩,⟨2,1,nc 16 15⟩,⟨3,3,fa 17 0 16⟩,⟨4,7,lb 18 1 17⟩,⟨5,0,la 19 32 5⟩,⟨6,16,A1 20 (.bsl 32 1 (.ar 32 (.int .u8)) [(.i 32 0,32,(.t 19))])⟩,⟨7,63,aP 21 32 32 18 20⟩,⟨0,0,mt 14 0⟩,⟨8,255,nc 22 14⟩,⟨9,511,fa 23 0 22⟩,⟨10,1023,sb 1 23 21⟩])
 (.regd [⟨1,0,mt 25 0⟩,⟨2,1,nc 26 25⟩,⟨3,3,fa 27 1 26⟩,⟨4,7,lb 28 1 27⟩,⟨5,0,la 29 64 3⟩,⟨6,16,A1 30 (.bsl 64 1 (.ar 64 (.int .u8)) [(.i 64 0,64,(.t 29))])⟩,⟨7,63,aP 31 64 64 28 30⟩,⟨0,0,mt 24 0⟩,⟨8,255,nc 32 24⟩,⟨9,511,fa 33 1 32⟩,⟨10,1023,sb 1 33 31⟩])) (.seq (.regd [⟨0,0,mt 34 0⟩,⟨1,1,nc 35 34⟩,⟨2,3,fa 36 1 35⟩,⟨3,7,lb 37 1 36⟩,⟨4,0,mt 38 6⟩,⟨5,31,ia 39 64 37 38⟩,⟨6,63,la 40 64 39⟩,⟨7,0,la 41 64 3⟩,⟨8,255,A1 42 (.eq true false (.ar 64 1 false .int) (.t 40) (.t 41))⟩]) (.cond (.t 42) (.seq (.regd [⟨0,0,mt 43 0⟩,⟨1,1,nc 44 43⟩,⟨2,3,fa 45 1 44⟩,⟨3,7,lb 46 1 45⟩,⟨4,0,mt 47 6⟩,⟨5,0,la 48 64 3⟩,⟨6,63,ia 49 64 46 47⟩,⟨7,127,sb 64 49 48⟩]) (.reg [mt 50 0,nc 51 50,fa 52 3 51,A0 (.store 1 (.t 52) (.c (.bool true)))])) .skip)))) (sr [la 53 32 5,sb 32 4 53] .ret)))))
def QT:LF:=⟨TG,2,0,54,[.cell 4 true 32]⟩
def Akb:LC:=(sr [bX 2 0,
 bX 3 1,
 aB 4 64] (sr [aB 5 64] (.seq (sr [mI 6 0] (.block 0 (.loop (.seq (sr [mt 7 6,aI 8 .lss 7 32]
 (cXx 8 0)) (.seq (.block 1 (sr [mt 11 6,mt 12 6,ib 13 32 1 2 12,lb 14 1 13,ib 15 64 1 5 11,sb 1 15 14] (.reg [mt 16 6,
  aJ 17 .add 32 16,mt 18 6,ib 19 32 1 3 18,lb 20 1 19,ib 21 64 1 5 17,sb 1 21 20]))) (.reg [mt 9 6,aI 10 .add 9 1,mt 6 10])))))) (sr [la 22 64 5,sb 64 4 22] .ret))))
def Ahn:LF:=⟨Akb,2,0,23,[.cell 4 true 64]⟩
def Aah:LC:=(sr [bX 3 1,
 mI 4 0] (.seq (sr [mI 5 0] (.block 0 (.loop (.seq (sr [mt 6 5,mt 7 0,nc 8 7,fa 9 0 8,lb 10 1 9,
  lN 11 0 10,ak 12 .lss 6 11]
 (cXx 12 0)) (.seq (.block 1 (.seq (.regd [⟨0,0,mt 15 0⟩,⟨1,1,nc 16 15⟩,⟨2,3,fa 17 0 16⟩,⟨3,7,lb 18 1 17⟩,⟨4,0,mt 19 5⟩,⟨5,31,ia 20 32 18 19⟩,⟨6,63,la 21 32 20⟩,⟨7,0,la 22 32 3⟩,⟨8,255,A1 23 (.eq false false (.ar 32 1 false .int) (.t 21) (.t 22))⟩]) (.cond (.t 23) (sr [mt 24 5,mt 4 24] .ret) .skip))) (.reg [mt 13 5,aI 14 .add 13 1,mt 5 14])))))) (sr [A1 4 (.mv (.c (.int .i64 (-1))))] .ret)))
def Wj:LF:=⟨Aah,2,0,25,[.tmp 4]⟩
variable {M:Seat}
structure OkR (M:Seat):Prop where
 k73:Al M 73 f73=true
 k218:Al M 218 Ahk=true
 k219:Al M 219 QT=true
 k329:Al M 329 Ahn=true
 k330:Al M 330 Wj=true
theorem F3 (ok:OkR M) (a b:Dg):Af M 329 [dg a,dg b] [] 0 (Q3 (At (CM a b)) [] 0):=by
 refine Ac ok.k329 rfl fun x hx=>?_
 refine es 2000 ?_;(simp only [Ahn,Akb,dg,LZ,seval])
 refine Ag (σ:=Nat) (fun i=>i≤32) (fun i=>fr 23 [(2,.ptr 0 []),(3,.ptr 1 []),(4,.ptr 2 []),(5,.ptr 3 []),(6,.int .i64 i)])
  (fun i=>[(0,dg a),(1,dg b),(2,At Pr.zero),(3,.ar 1 64 fun j=>B (if j < i then a.at j else if 32≤j∧j < 32 + i then b.at (j - 32) else 0#8))]) (fun _=>4) (fun i=>32 - i) 0 Aa ?_ ?_
 ·refine Aj.fr [0,16,32,48] [] hx Ax Ak ?_ ?_
  ·simp only [LY,seval]
  ·simp only [OS,LY,seval]
   intro j hj
   rw [if_neg Aa,if_neg Aa]
 ·intro i hi
  refine es 2000 ?_
  by_cases h32:i=32
  ·subst h32
   (simp only [At,LZ,seval])
   refine Aq.mk hx [] [] (At (CM a b)) [] 0 Ak (by simp only [Fk,At,seval]) ?_ trivial ⟨rfl,rfl,rfl⟩
   simp only [Fk,At,seval]
   simp only [At,LY,seval]
   intro j hj
   rw [CM,Pr.at_mk' _ _ hj]
   by_cases h:j < 32
   ·rw [if_pos h,if_pos h]
   ·rw [if_neg h,if_neg h,if_pos Aa]
  ·have d0:((i:Int) < 32)=True:=eq_true Aa
   have w0:IntKind.i64.wrap ((i:Int) + 1)=((i + 1:Nat):Int):=A9
   have w1:IntKind.i64.wrap (32 + (i:Int))=((32 + i:Nat):Int):=A9
   have d3:(32 + i=i)=False:=eq_false Aa
   (simp only [d0,w0,w1,d3,Fq,LZ,seval])
   repeat refine sd ?_
   refine ⟨i + 1,by omega,by omega,?_⟩
   refine Aj.fr [0,1,2,3] [] hx Ax Ak ?_ ?_
   ·simp only [LY,seval]
   ·simp only [OS,LY,seval]
    intro j hj
    by_cases e1:j=32 + i
    ·subst e1
     rw [if_pos rfl,if_neg Aa,if_pos Aa,show 32 + i - 32=i by omega];simp only [B,LY,seval]
    ·rw [if_neg e1]
     by_cases e2:j=i
     ·subst e2
      rw [if_pos rfl,if_pos Aa];simp only [B,LY,seval]
     ·rw [if_neg e2]
      by_cases e3:j < i
      ·rw [if_pos e3,if_pos Aa];simp only [B,LY,seval]
      ·rw [if_neg e3,if_neg (by omega:¬ j < i + 1)]
       by_cases e4:32≤j∧j < 32 + i
       ·rw [if_pos e4,if_pos Aa];simp only [B,LY,seval]
       ·rw [if_neg e4,if_neg Aa];simp only [B,LY,seval]
def BJ (hs ps:V) (met:Bool):V:=.st 4 (.fcons 0 hs (.fcons 1 ps (.fcons 2 .nils (.fcons 3 (.bool met) .fnil))))
def Ft:=(aq2 @dg.eq_1 @BJ.eq_1)
theorem O6 (ok:OkR M) (h:Dg) (met:Bool):Af M 330 [.ptr 0 [],dg h] [(0,BJ .nils .nils met)] 1 (Q3 (.int .i64 (-1)) [(0,BJ .nils .nils met)] 1):=by
 refine Ac ok.k330 rfl fun x hx=>?_
 refine es 2000 ?_;(simp only [Wj,Aah,BJ,LZ,seval])
 refine AZ ?_
 refine es 2000 ?_
 (simp only [LZ,seval])
 have zz:=@BJ.eq_1;exact Bg hx [0] ⟨rfl,rfl,rfl⟩
theorem IW (ok:OkR M) (h:Dg) (n:Nat) (hs:Nat→Dg) (met:Bool) (hn:n < 4294967296) (i0:Nat) (hi0:i0≤n) (hlow:∀ j,j < i0→¬ hs j=h) (hend:i0=n ∨ hs i0=h) :
 Af M 330 [.ptr 0 [],dg h] [(0,BJ (.sl 1 [] 0 n 32) (.sl 2 [] 0 n 64) met),(1,.ar 32 n fun i=>dg (hs i))] 3 (Q3 (.int .i64 (if i0=n then -1 else (i0:Int))) [(0,BJ (.sl 1 [] 0 n 32) (.sl 2 [] 0 n 64) met),(1,.ar 32 n fun i=>dg (hs i))] 3):=by
 refine Ac ok.k330 rfl fun x hx=>?_
 refine es 2000 ?_;(simp only [Wj,Aah,BJ,LZ,seval])
 refine Ag (σ:=Nat) (fun i=>i≤i0) (fun i=>fr 25 [(0,.ptr 0 []),(3,.ptr 3 []),(5,.int .i64 i)])
  (fun i=>[(0,BJ (.sl 1 [] 0 n 32) (.sl 2 [] 0 n 64) met),(1,.ar 32 n fun i=>dg (hs i)),(3,dg h)]) (fun _=>4) (fun i=>i0 - i) 0 Aa ?_ ?_
 ·refine Aj.fr [0,1,2,3] [] hx Ax Ak ?_ ?_
  ·simp only [LY,seval]
  ·simp only [Ft,LY,seval]
 ·intro i hi
  refine es 2000 ?_
  by_cases hin:i=n
  ·subst hin
   have e0:i0=i:=Aa
   subst e0
   have d0:((i0:Int) < (i0:Int))=False:=eq_false Aa
   rw [if_pos rfl]
   (simp only [BJ,d0,LZ,seval])
   have zz:=Ft;exact Bg hx [0,1,2] ⟨rfl,rfl,rfl⟩
  ·have d0:((i:Int) < (n:Int))=True:=eq_true Aa
   have w0:IntKind.i64.wrap ((i:Int) + 1)=((i + 1:Nat):Int):=A9
   by_cases hf:hs i=h
   ·have e0:i=i0:=by
     rcases Nat.lt_or_ge i i0 with h1 | h1
     ·exact absurd hf (hlow i h1)
     ·omega
    subst e0
    rw [if_neg hin]
    (simp only [BJ,d0,hf,LZ,seval])
    repeat refine sd ?_
    have zz:=Ft;exact Bg hx [0,1,2] ⟨rfl,rfl,rfl⟩
   ·have hlt:i < i0:=by
     rcases Nat.lt_or_ge i i0 with h1 | h1
     ·exact h1
     ·rcases hend with h2 | h2
      ·omega
      ·exact absurd (by rw [show i=i0 by omega];exact h2) hf
    (simp only [BJ,d0,w0,hf,LZ,seval])
    repeat refine sd ?_
    refine ⟨i + 1,by omega,by omega,?_⟩
    refine Aj.fr [0,1,2,3] [] hx Ax Ak ?_ ?_
    ·simp only [LY,seval]
    ·simp only [Ft,LY,seval]
variable {M:Seat}
def rh (l:List (Dg × Pr)) (i:Nat):Dg:=(l.getD i (Dg.zero,Pr.zero)).1
def rp (l:List (Dg × Pr)) (i:Nat):Pr:=(l.getD i (Dg.zero,Pr.zero)).2
def GT (l:List (Dg × Pr)) (met:Bool):Hp:=[(0,BJ (.sl 1 [] 0 l.length 32) (.sl 2 [] 0 l.length 64) met),(1,.ar 32 l.length fun i=>dg (rh l i)),(2,.ar 64 l.length fun i=>At (rp l i))]
noncomputable def CE (p:Pr):Dg:=Qf (HL (List.replicate 25 0) (pd p.at))
def Gq (l:List (Dg × Pr)) (h:Dg):Nat:=l.findIdx fun x=>decide (x.1=h)
theorem Dy (l:List (Dg × Pr)) (h:Dg):Gq l h≤l.length:=List.findIdx_le_length
theorem Ip (l:List (Dg × Pr)) (h:Dg) (j:Nat) (hj:j < Gq l h):¬ rh l j=h:=by
 have:=List.not_of_lt_findIdx hj
 have hl:j < l.length:=Nat.lt_of_lt_of_le hj (Dy l h)
 rw [rh,List.getD_eq_getElem?_getD,List.getElem?_eq_getElem hl]
 simpa using this
theorem F1 (l:List (Dg × Pr)) (h:Dg):Gq l h=l.length ∨ rh l (Gq l h)=h:=by
 rcases Nat.lt_or_ge (Gq l h) l.length with hl | hl
 ·right
  have:=List.findIdx_getElem (w:=hl)
  rw [rh,List.getD_eq_getElem?_getD,List.getElem?_eq_getElem hl]
  exact of_decide_eq_true this
 ·left;have:=Dy l h;omega
def RX (l:List (Dg × Pr)) (met:Bool):Hp:=[(0,BJ (.sl 3 [] 0 l.length 32) (.sl 4 [] 0 l.length 64) met),(3,.ar 32 l.length fun i=>dg (rh l i)),(4,.ar 64 l.length fun i=>At (rp l i))]
noncomputable def P4 (l:List (Dg × Pr)) (p:Pr):List (Dg × Pr):=l.set (Gq l (CE p)) (CE p,p)
noncomputable def Xk (l:List (Dg × Pr)) (met:Bool) (p:Pr):Bool:=if rp l (Gq l (CE p))=p then met else true
theorem Rh (okB:OkB M) (ok:OkR M) (p:Pr) (met:Bool) :
 Af M 219 [.ptr 0 [],At p] [(0,BJ .nils .nils met)] 1 (Q3 (dg (CE p)) (GT [(CE p,p)] met) 3):=by
 have hS:Af M 311 [.lst 1 64 (fun j=>B (p.at j))] [] 0 (Q3 (dg (CE p)) [] 0):=CC okB p.at
 generalize CE p=D at *
 refine Ac ok.k219 rfl fun x hx=>?_
 refine es 2000 ?_;(simp only [QT,TG,At,LZ,seval])
 refine Ah (hS) ?_
 (simp only [dg,LZ,seval])
 have zz:=Ft;refine Fl [0] (O6 ok D met) ?_
 (simp only [BJ,Fq,LZ,seval])
 refine Aq.mk hx [0,465,817] [] (dg D) (GT [(D,p)] met) 3 Ak (by simp only [Fk,dg,seval]) (by simp only [IT,dg,seval]) ?_ ⟨rfl,rfl,rfl⟩
 simp only [GT,BJ,Fq,List.length_cons,List.length_nil,Nat.zero_add,CF,seval]
 refine ⟨fun i hi=>?_,fun i hi=>?_⟩
 all_goals obtain rfl:i=0:=Aa
 all_goals simp only [if_true,rh,rp,List.getD_cons_zero,LY,seval]
theorem Yg (l:List (Dg × Pr)) (h:Dg) (p:Pr) (i:Nat) (hi:i < l.length + 1):rh (l ++ [(h,p)]) i=if i < l.length then rh l i else h:=by
 by_cases hl:i < l.length
 ·rw [if_pos hl,rh,rh,List.getD_eq_getElem?_getD,List.getD_eq_getElem?_getD,List.getElem?_append_left hl]
 ·obtain rfl:i=l.length:=Aa
  rw [if_neg hl,rh,List.getD_eq_getElem?_getD,List.getElem?_append_right (Nat.le_refl _)];simp
theorem VH (l:List (Dg × Pr)) (h:Dg) (p:Pr) (i:Nat) (hi:i < l.length + 1):rp (l ++ [(h,p)]) i=if i < l.length then rp l i else p:=by
 by_cases hl:i < l.length
 ·rw [if_pos hl,rp,rp,List.getD_eq_getElem?_getD,List.getD_eq_getElem?_getD,List.getElem?_append_left hl]
 ·obtain rfl:i=l.length:=Aa
  rw [if_neg hl,rp,List.getD_eq_getElem?_getD,List.getElem?_append_right (Nat.le_refl _)];simp
theorem Na (l:List (Dg × Pr)) (h:Dg) (p:Pr) (k:Nat) (hk:rh l k=h) (i:Nat):rh (l.set k (h,p)) i=rh l i:=by
 rw [rh,List.getD_eq_getElem?_getD,List.getElem?_set]
 split
 ·rename_i e;subst e
  split
  ·simp [hk]
  ·rename_i h2;rw [rh,List.getD_eq_getElem?_getD,List.getElem?_eq_none Aa]
 ·rw [rh,List.getD_eq_getElem?_getD]
theorem Ng (l:List (Dg × Pr)) (h:Dg) (p:Pr) (k:Nat) (i:Nat) (hi:i < l.length):rp (l.set k (h,p)) i=if i=k then p else rp l i:=by
 rw [rp,List.getD_eq_getElem?_getD,List.getElem?_set]
 by_cases e:k=i
 ·subst e
  rw [if_pos rfl,if_pos rfl,if_pos hi];rfl
 ·rw [if_neg e,if_neg (Ne.symm e),rp,List.getD_eq_getElem?_getD]
theorem JW (okB:OkB M) (ok:OkR M) (p:Pr) (met:Bool) (l:List (Dg × Pr)) (hl:l.length < 4294967296) (hk:Gq l (CE p)=l.length) :
 Af M 219 [.ptr 0 [],At p] (GT l met) 3 (Q3 (dg (CE p)) (RX (l ++ [(CE p,p)]) met) 5):=by
 have hS:Af M 311 [.lst 1 64 (fun j=>B (p.at j))] [] 0 (Q3 (dg (CE p)) [] 0):=CC okB p.at
 generalize CE p=D at *
 have hI:=IW ok D l.length (rh l) met hl (Gq l D) (Dy l D) (Ip l D) (F1 l D)
 simp only [if_pos hk] at hI
 refine Ac ok.k219 rfl fun x hx=>?_
 refine es 2000 ?_;(simp only [QT,TG,At,GT,BJ,LZ,seval])
 refine Ah (hS) ?_
 (simp only [dg,LZ,seval])
 have zz:=Ft;refine JO [0,1,2] [0,1] (hI) ?_
 (simp only [BJ,Fq,LZ,seval])
 repeat refine sd ?_
 refine Aq.mk hx [0,1,2,467,819] [] (dg D) (RX (l ++ [(D,p)]) met) 5 Ak (by simp only [Fk,dg,seval]) (by simp only [IT,dg,seval]) ?_ ⟨rfl,rfl,rfl⟩
 simp only [RX,BJ,Fq,Lc4,Nat.zero_add,CF,seval]
 refine ⟨fun i hi=>?_,fun i hi=>?_⟩
 ·rw [Yg _ _ _ _ hi]
  by_cases h:i < l.length
  ·rw [if_pos h,if_pos h];simp only [LY,seval]
  ·rw [if_neg h,if_neg h,if_pos Aa];simp only [LY,seval]
 ·rw [VH _ _ _ _ hi]
  by_cases h:i < l.length
  ·rw [if_pos h,if_pos h];simp only [LY,seval]
  ·rw [if_neg h,if_neg h,if_pos Aa];simp only [LY,seval]
theorem Kr (okB:OkB M) (ok:OkR M) (p:Pr) (met:Bool) (l:List (Dg × Pr)) (hl:l.length < 4294967296) (hk:¬ Gq l (CE p)=l.length) :
 Af M 219 [.ptr 0 [],At p] (GT l met) 3 (Q3 (dg (CE p)) (GT (P4 l p) (Xk l met p)) 3):=by
 have hS:Af M 311 [.lst 1 64 (fun j=>B (p.at j))] [] 0 (Q3 (dg (CE p)) [] 0):=CC okB p.at
 rw [P4,Xk]
 generalize CE p=D at *
 have hI:=IW ok D l.length (rh l) met hl (Gq l D) (Dy l D) (Ip l D) (F1 l D)
 have hle:=Dy l D
 have hhi:=(F1 l D).resolve_left hk
 generalize Gq l D=k at *
 simp only [if_neg hk] at hI
 have h0:((k:Int) < 0)=False:=eq_false Aa
 refine Ac ok.k219 rfl fun x hx=>?_
 refine es 2000 ?_;(simp only [QT,TG,GT,BJ,BA,seval])
 have zz:=@At.eq_1;refine CI (hS) ?_
 (simp only [dg,BA,seval])
 have zz:=Ft;refine JO [0,1,2] [0,1] (hI) ?_
 by_cases hp:rp l k=p
 all_goals
  (simp only [Ft,hk,h0,hp,BA,seval])
  repeat refine sd ?_
 ·refine Aq.mk hx [0,1,2] [] (dg D) (GT (l.set k (D,p)) met) 3 Ak (by simp only [Fk,dg,seval]) (by simp only [IT,dg,seval]) ?_ ⟨rfl,rfl,rfl⟩
  simp only [GT,Ft,List.length_set,Na _ _ _ _ hhi,CF,seval]
  intro i hi
  rw [Ng _ _ _ _ _ hi]
  by_cases h:i=k
  ·rw [if_pos h,h,hp]
  ·rw [if_neg h]
 ·refine Aq.mk hx [0,1,2] [] (dg D) (GT (l.set k (D,p)) true) 3 Ak (by simp only [Fk,dg,seval]) (by simp only [IT,dg,seval]) ?_ ⟨rfl,rfl,rfl⟩
  simp only [GT,Ft,List.length_set,Na _ _ _ _ hhi,CF,seval]
  intro i hi
  rw [Ng _ _ _ _ _ hi]
  by_cases h:i=k
  ·rw [if_pos h,if_pos h]
   simp only [C6]
  ·rw [if_neg h,if_neg h]
   simp only [C6]
noncomputable def BL:Nat→List (Dg × Pr) × Bool
 | 0=>([],false)
 | n + 1=>if Gq (BL n).1 (CE (CM (Am n) (Am n)))=(BL n).1.length then ((BL n).1 ++ [(CE (CM (Am n) (Am n)),CM (Am n) (Am n))],(BL n).2) else (P4 (BL n).1 (CM (Am n) (Am n)),Xk (BL n).1 (BL n).2 (CM (Am n) (Am n)))
theorem Ku:∀ n,(BL n).1.length≤n
 | 0=>Nat.le_refl 0
 | n + 1 => by
   have h:=Ku n
   rw [BL];split
   ·simp only [Lc4];omega
   ·simp only [P4,List.length_set];omega
def YF:V:=.ar 32 17 (fun j=>dg (Am j))
noncomputable def rnH (n:Nat):Hp:=if n=0 then [(0,BJ .nils .nils false),(1,YF)] else [(0,BJ (.sl 2 [] 0 (BL n).1.length 32) (.sl 3 [] 0 (BL n).1.length 64) (BL n).2),(1,YF),(2,.ar 32 (BL n).1.length fun i=>dg (rh (BL n).1 i)),(3,.ar 64 (BL n).1.length fun i=>At (rp (BL n).1 i))]
theorem Um (okB:OkB M) (ok:OkR M):Af M 218 [] [] 0 (Q3 (.ptr 0 []) (GT (BL 16).1 (BL 16).2) 3):=by
 refine Ac ok.k218 rfl fun x hx=>?_
 refine es 2000 ?_;(simp only [Ahk,Akw,LZ,seval])
 have zz:=@dg.eq_1;refine El (R4 okB) ?_
 (simp only [BA,seval])
 refine Ag (σ:=Nat) (fun n=>n≤16) (fun n=>fr 23 [(1,.ptr 0 []),(2,.sl 1 [] 0 17 32),(3,.int .i64 n)]) rnH (fun n=>if n=0 then 2 else 4) (fun n=>16 - n) 0 Aa ?_ ?_
 ·rw [rnH,if_pos rfl]
  refine Aj.fr [32,64] [] hx Ax Ak ?_ ?_
  ·simp only [LY,seval]
  ·simp only [Ft,YF,LY,seval]
 ·intro n hn
  refine es 2000 ?_
  by_cases h16:n=16
  ·subst h16
   rw [rnH,if_neg Ak,if_neg Ak]
   (simp only [BJ,YF,LZ,seval])
   refine ID hx [0,2,3] (.ptr 0 []) (GT (BL 16).1 (BL 16).2) 3 ?_
   simp only [GT,Ft,CF,seval]
  ·have d0:((n:Int) < 16)=True:=eq_true Aa
   have d1:((n:Int) < 17)=True:=eq_true Aa
   have d2:(0≤(n:Int))=True:=eq_true Aa
   have w0:IntKind.i64.wrap ((n:Int) + 1)=((n + 1:Nat):Int):=A9
   have hlen:=Ku n
   have e0:¬ n + 1=0:=Aa
   have wi1:IntKind.i64.wrap 1=1:=rfl
   by_cases hz:n=0
   ·subst hz
    rw [rnH,if_pos rfl,if_pos rfl]
    have hA:=Rh okB ok (CM (Am 0) (Am 0)) false
    (simp only [BJ,YF,LZ,seval])
    have zz:=@C6;refine Gy (F3 ok (Am 0) (Am 0)) ?_
    (simp only [BA,seval])
    have zz:=aq3 Ft @GT.eq_1 @C6;refine Pd [0] (hA) ?_
    (simp only [Ft,GT,BA,wi1,seval])
    refine ⟨0 + 1,by omega,by omega,?_⟩
    have e1:BL (0 + 1)=([(CE (CM (Am 0) (Am 0)),CM (Am 0) (Am 0))],false):=rfl
    rw [rnH,if_neg e0,if_neg e0,e1]
    refine Aj.fr [0,1,370,371] [] hx Ax Ak ?_ ?_
    ·simp only [LY,seval]
    ·simp only [Ft,YF,CF,seval]
   ·rw [rnH,if_neg hz,if_neg hz]
    by_cases hk:Gq (BL n).1 (CE (CM (Am n) (Am n)))=(BL n).1.length
    ·have hA:=JW okB ok (CM (Am n) (Am n)) (BL n).2 (BL n).1 Aa hk
     (simp only [BJ,YF,d0,d1,d2,LZ,seval])
     repeat refine sd ?_
     have zz:=@C6;refine Gy (F3 ok (Am n) (Am n)) ?_
     (simp only [BA,seval])
     have zz:=aq4 Ft @GT.eq_1 @RX.eq_1 @C6;refine Pd [0,2,3] (hA) ?_
     (simp only [Ft,RX,BA,w0,seval])
     refine ⟨n + 1,by omega,by omega,?_⟩
     rw [rnH,if_neg e0,if_neg e0,BL,if_pos hk]
     refine Aj.fr [0,1,372,373] [] hx Ax Ak ?_ ?_
     ·simp only [LY,seval]
     ·simp only [Ft,YF,CF,seval]
    ·have hA:=Kr okB ok (CM (Am n) (Am n)) (BL n).2 (BL n).1 Aa hk
     (simp only [BJ,YF,d0,d1,d2,LZ,seval])
     repeat refine sd ?_
     have zz:=@C6;refine Gy (F3 ok (Am n) (Am n)) ?_
     (simp only [BA,seval])
     have zz:=aq3 Ft @GT.eq_1 @C6;refine Pd [0,2,3] (hA) ?_
     (simp only [Ft,GT,BA,w0,seval])
     refine ⟨n + 1,by omega,by omega,?_⟩
     rw [rnH,if_neg e0,if_neg e0,BL,if_neg hk]
     refine Aj.fr [0,1,2,3] [] hx Ax Ak ?_ ?_
     ·simp only [LY,seval]
     ·simp only [Ft,YF,CF,seval]
def RO (l:List (Dg × Pr)) (met:Bool):Hp:=[(5,BJ (.sl 6 [] 0 l.length 32) (.sl 7 [] 0 l.length 64) met),(6,.ar 32 l.length fun i=>dg (rh l i)),(7,.ar 64 l.length fun i=>At (rp l i))]
theorem NV (okA:OkM M) (okS:OkS M) (okB:OkB M) (ok:OkR M) :
 Af M 73 [.nils] [] 0 (Q3 (Ao (.ptr 0 []) (.ptr 5 [])) (AF (FK 16) .nils [] ++ RO (BL 16).1 (BL 16).2) 8):=by
 refine Ac ok.k73 rfl fun x hx=>?_
 refine es 2000 ?_;(simp only [f73,c73,LZ,seval])
 have zz:=aq4 @AF.eq_1 Nw @C6 @BV;refine El (PC okA okS) ?_
 (simp only [AF,Nw,AR,BA,seval])
 have zz:=aq3 @GT.eq_1 Ft @C6;refine El (Um okB ok) ?_
 (simp only [AF,Nw,AR,GT,Ft,BA,seval])
 refine AZ ?_
 refine es 2000 ?_
 (simp only [LZ,seval])
 refine ID hx [32,33,34,35,36,48,49,50] (Ao (.ptr 0 []) (.ptr 5 [])) (AF (FK 16) .nils [] ++ RO (BL 16).1 (BL 16).2) 8 ?_
 all_goals simp only [G0,RO,BJ,Ik,Ao,IY,LM,seval]
end Mv
