/- A part. -/
import Derived.Test.YtlfkjfonpacelaaGreatDoorJD
set_option linter.all false
set_option maxRecDepth 20000
set_option maxHeartbeats 4000000
namespace Mv
open Go
variable {M:Seat}
theorem Ok (e:Option Int):Ho (Cn e)=True:=by cases e <;> simp [Ho,Cn,V.solid]
theorem Pk (e:Option Int) (i:Nat) (r:V):Kf (Cn e) i r = .fcons i (Cn e) r:=by cases e <;> rfl
theorem UZ {g:Nat→BitVec 64} {pc xt:BitVec 64} {hl:Bool} {t:Nat} {op:Int} {a b:BitVec 64}:Lz [Ba g pc hl xt,.ifc t (.ptr 0 []),.int .i64 op,W a,W b] [Ba g pc hl xt,.ifc t (.ptr 0 []),.int .i64 op,W a,W b]:=fun H m z h=>by
 simp only [Bp,Bz,Ay,Ba,W,h,and_self,implies_true]
theorem Aid (g:Nat→BitVec 64) (pc xt:BitVec 64) (hl:Bool) (e:Option Int):Mn (Ai (Ba g pc hl xt) (Cn e)):=fun m=>by simp only [Ai,V.ren,Ba,W,Ky]
theorem MH (ok:OkQ M) (I:MemI M) (g:Nat→BitVec 64) (pc:BitVec 64) (xt:BitVec 64) (s:I.σ) (hz:I.Z s) (hpc:¬ 8192#64≤pc) (w:BitVec 64) (hw:(I.mm.rd s pc).1=w) (he:(I.mm.rd s pc).2.1=none) (s1:I.σ) (hs:(I.mm.rd s pc).2.2=s1) (hop:Cj w=34) (h2:w >>> 32 &&& 255#64=0#64) (h:(wi (g (pF w 48)) 8#64 && wi (g (pF w 44)) 4#64)=false) :
 Ae M 241 [Ba g pc false xt,.ifc I.t (.ptr 0 [])] (I.E0 s) I.k0 (Q3 (Ai (Ba g pc true AD) (Cn (none))) (I.E (s1) I.k0) (I.k0 + 1)):=by
 refine Ab ok.okN.k241 rfl fun x hx=>?_;refine AV.up (N':=32) Hw ?_;have a1:=At w 52;have a2:=At w 48;have a3:=At w 44;have a4:=At w 40;have hL:I.len s1≤100:=Gq;refine eX ?_;simp only [P8,I.hdel0,hpc,seval];refine I.dynR0 [_,_] hz hpc Ca ?_;rw [hw,he,hs];simp only [Kn,seval];have zz:=@j3;refine Dh (AC ok.ok.toOkV w Aa h2) ?_;simp only [HQ,hop,I.idsE,seval];repeat refine sd ?_
 refine ⟨_,_,I.cu [_,_] (RR ok I g pc xt _ _ s1 h) UZ (fun m=>rfl) Hw (F6 Ca) ⟨rfl,rfl⟩,?_⟩;simp only [Lbw,I.idsE,seval];exact I.ret [_,_] (q:=I.k0) ⟨Nat.le_refl _,by have:=I.hk;omega⟩ hx Al Ca ⟨rfl,rfl,rfl⟩ (by (simp only [Gc,seval])) (by (simp only [TK,seval]))
theorem Ph (ok:OkQ M) (I:MemI M) (g:Nat→BitVec 64) (pc:BitVec 64) (xt:BitVec 64) (s:I.σ) (hz:I.Z s) (hpc:¬ 8192#64≤pc) (w:BitVec 64) (hw:(I.mm.rd s pc).1=w) (he:(I.mm.rd s pc).2.1=none) (s1:I.σ) (hs:(I.mm.rd s pc).2.2=s1) (hop:Cj w=34) (h2:w >>> 32 &&& 255#64=0#64) (h3:wi (g (pF w 48)) 8#64=true) (h4:wi (g (pF w 44)) 4#64=true) (q:Hd × Option Int × I.σ) (hq:TL I.mm 34 ⟨g,pc,false,xt⟩ s1 (g (pF w 48)) (g (pF w 44))=q) :
 Ae M 241 [Ba g pc false xt,.ifc I.t (.ptr 0 [])] (I.E0 s) I.k0 (Q3 (Ai (q.1.v) (Cn (q.2.1))) (I.E (q.2.2) I.k0) (I.k0 + 1)):=by
 refine Ab ok.okN.k241 rfl fun x hx=>?_;refine AV.up (N':=32) Hw ?_;have a1:=At w 52;have a2:=At w 48;have a3:=At w 44;have a4:=At w 40;have hL:I.len s1≤100:=Gq;obtain ⟨⟨g1,pc1,hl1,xt1⟩,e1,s2⟩:=q;have hL1:I.len s1≤1:=Gq;refine eX ?_;simp only [P8,I.hdel0,hpc,seval];refine I.dynR0 [_,_] hz hpc Ca ?_;rw [hw,he,hs];simp only [Kn,seval];have zz:=@j3;refine Dh (AC ok.ok.toOkV w Aa h2) ?_;simp only [HQ,hop,I.idsE,seval];repeat refine sd ?_
 refine ⟨_,_,I.ck [_,_] (Ug ok I g pc xt _ _ s1 hL1 h3 h4 _ hq) UZ (Aid _ _ _ _ _) Hw (F6 Ca) ⟨rfl,rfl⟩,?_⟩;simp only [Lbw,Hd.v,I.idsE,seval];repeat refine sd ?_
 have hE:∀ H m z,Ay H m z (Cn e1) (Cn e1):=fun H m z=>Ac4 e1 H m z;exact I.ret [_,_] (q:=I.k0) ⟨Nat.le_refl _,by have:=I.hk;omega⟩ hx Al Ca ⟨rfl,rfl,rfl⟩ (by (simp only [Gc,hE,Ok,Pk,seval])) (by (simp only [TK,hE,Ok,Pk,seval]))
theorem MD (ok:OkQ M) (I:MemI M) (g:Nat→BitVec 64) (pc:BitVec 64) (xt:BitVec 64) (s:I.σ) (hz:I.Z s) (hpc:¬ 8192#64≤pc) (w:BitVec 64) (hw:(I.mm.rd s pc).1=w) (he:(I.mm.rd s pc).2.1=none) (s1:I.σ) (hs:(I.mm.rd s pc).2.2=s1) (hop:Cj w=35) (h2:w >>> 32 &&& 255#64=0#64) (h:(wi (g (pF w 48)) 4#64 && wi (g (pF w 44)) 8#64)=false) :
 Ae M 241 [Ba g pc false xt,.ifc I.t (.ptr 0 [])] (I.E0 s) I.k0 (Q3 (Ai (Ba g pc true AD) (Cn (none))) (I.E (s1) I.k0) (I.k0 + 1)):=by
 refine Ab ok.okN.k241 rfl fun x hx=>?_;refine AV.up (N':=32) Hw ?_;have a1:=At w 52;have a2:=At w 48;have a3:=At w 44;have a4:=At w 40;have hL:I.len s1≤100:=Gq;refine eX ?_;simp only [P8,I.hdel0,hpc,seval];refine I.dynR0 [_,_] hz hpc Ca ?_;rw [hw,he,hs];simp only [Kn,seval];have zz:=@j3;refine Dh (AC ok.ok.toOkV w Aa h2) ?_;simp only [HQ,hop,I.idsE,seval];repeat refine sd ?_
 refine ⟨_,_,I.cu [_,_] (PG ok I g pc xt _ _ s1 h) UZ (fun m=>rfl) Hw (F6 Ca) ⟨rfl,rfl⟩,?_⟩;simp only [Lbw,I.idsE,seval];exact I.ret [_,_] (q:=I.k0) ⟨Nat.le_refl _,by have:=I.hk;omega⟩ hx Al Ca ⟨rfl,rfl,rfl⟩ (by (simp only [Gc,seval])) (by (simp only [TK,seval]))
theorem O3 (ok:OkQ M) (I:MemI M) (g:Nat→BitVec 64) (pc:BitVec 64) (xt:BitVec 64) (s:I.σ) (hz:I.Z s) (hpc:¬ 8192#64≤pc) (w:BitVec 64) (hw:(I.mm.rd s pc).1=w) (he:(I.mm.rd s pc).2.1=none) (s1:I.σ) (hs:(I.mm.rd s pc).2.2=s1) (hop:Cj w=35) (h2:w >>> 32 &&& 255#64=0#64) (h3:wi (g (pF w 48)) 4#64=true) (h4:wi (g (pF w 44)) 8#64=true) (q:Hd × Option Int × I.σ) (hq:TL I.mm 35 ⟨g,pc,false,xt⟩ s1 (g (pF w 48)) (g (pF w 44))=q) :
 Ae M 241 [Ba g pc false xt,.ifc I.t (.ptr 0 [])] (I.E0 s) I.k0 (Q3 (Ai (q.1.v) (Cn (q.2.1))) (I.E (q.2.2) I.k0) (I.k0 + 1)):=by
 refine Ab ok.okN.k241 rfl fun x hx=>?_;refine AV.up (N':=32) Hw ?_;have a1:=At w 52;have a2:=At w 48;have a3:=At w 44;have a4:=At w 40;have hL:I.len s1≤100:=Gq;obtain ⟨⟨g1,pc1,hl1,xt1⟩,e1,s2⟩:=q;have hL1:I.len s1≤1:=Gq;refine eX ?_;simp only [P8,I.hdel0,hpc,seval];refine I.dynR0 [_,_] hz hpc Ca ?_;rw [hw,he,hs];simp only [Kn,seval];have zz:=@j3;refine Dh (AC ok.ok.toOkV w Aa h2) ?_;simp only [HQ,hop,I.idsE,seval];repeat refine sd ?_
 refine ⟨_,_,I.ck [_,_] (Tv ok I g pc xt _ _ s1 hL1 h3 h4 _ hq) UZ (Aid _ _ _ _ _) Hw (F6 Ca) ⟨rfl,rfl⟩,?_⟩;simp only [Lbw,Hd.v,I.idsE,seval];repeat refine sd ?_
 have hE:∀ H m z,Ay H m z (Cn e1) (Cn e1):=fun H m z=>Ac4 e1 H m z;exact I.ret [_,_] (q:=I.k0) ⟨Nat.le_refl _,by have:=I.hk;omega⟩ hx Al Ca ⟨rfl,rfl,rfl⟩ (by (simp only [Gc,hE,Ok,Pk,seval])) (by (simp only [TK,hE,Ok,Pk,seval]))
variable {M:Seat}
structure Pf where
 v:BitVec 64
 p:List Dg
instance:Inhabited Pf:=⟨⟨0#64,[]⟩⟩
def Kj (p:Pf):V:=.st 2 (.fcons 0 (W p.v) (.fcons 1 (.lst 32 p.p.length (Fw p.p)) .fnil))
def Ff (l:List Pf) (i:Nat):V:=Kj (l.getD i default)
structure Ck where
 root:Dg
 l:List Pf
 pre:Pr
def Ck.vv (c:Ck):V:=.st 97 (.fcons 0 (dg c.root) (.fcons 32 (.lst 2 c.l.length (Ff c.l)) (.fcons 33 (AL c.pre) .fnil)))
theorem Px (H:Hp) (m z:List Nat) (p:Pf):Ay H m z (Kj p) (Kj p):=by simp only [Kj,Fw,dg,LY,seval]
theorem BW (H:Hp) (m z:List Nat) (l:List Pf) (i:Nat):Ay H m z (Ff l i) (Ff l i)=True:=eq_true (Px H m z _)
def Jq:=(AY @Cg @BW)
def Zj:=(AY @Lap @BW)
theorem F7 (H:Hp) (m z:List Nat) (c:Ck):Ay H m z c.vv c.vv:=by simp only [Ck.vv,Zj,LY,seval]
theorem HZ (m:List Nat) (l:List Pf) (i:Nat):(Ff l i).ren m=Ff l i:=rfl
def Je:=(AY @Cz @HZ)
theorem Uv (m:List Nat) (c:Ck):c.vv.ren m=c.vv:=rfl
structure OkCk (M:Seat):Prop where
 k598:Ar M 598 Ak8=true
 k599:Ar M 599 Za=true
 k600:Ar M 600 Aa3=true
 k601:Ar M 601 Alo=true
 m0:Dc M 426 0 599
 m1:Dc M 426 1 600
 m2:Dc M 426 2 598
theorem JP (ok:OkM M) (d:Dg) (i:BitVec 64) (hi:¬ 8192#64≤i) (p:Pf) (hn:¬ p.p.length=13) :
 Ae M 53 [dg d,W i,Kj p] [] 0 (Q3 (Ai (.bool false) (Cn (some 3))) [] 0):=by
 refine Ab ok.k53 rfl fun x hx=>?_;have hn':((p.p.length:Int)=13)=False:=eq_false Aa;refine eX ?_;simp only [f53,c53,eq_false hi,hn',Kj,LZ,seval];simp only [AA];refine Ap.mk hx [] [] (Ai (.bool false) (.ifc 74 (.int .i64 3))) [] 0 Al (by (simp only [Di,seval])) (by (try simp only [KR,seval]) <;> exact q2) trivial ⟨rfl,rfl,rfl⟩
theorem PK (ok:OkM M) (d:Dg) (i:BitVec 64) (hi:¬ 8192#64≤i) (p:Pf) (hn:¬ p.p.length=13) (u:BitVec 64) :
 Ae M 52 [dg d,W i,Kj p,W u] [] 0 (Q3 (Ai (dg Dg.zero) (Cn (some 3))) [] 0):=by
 refine Ab ok.k52 rfl fun x hx=>?_;refine eX ?_;simp only [f52,c52,Kj,LZ,seval];have zz:=D0 @Kj.eq_1 @AA @m6 @b7;refine Dh (JP ok d i hi p hn) ?_;simp only [Bb,AA,dg0,seval];refine Ap.mk hx [] [] (Ai (dg Dg.zero) (.ifc 74 (.int .i64 3))) [] 0 Al (by (simp only [Di,seval])) (by (try simp only [KR,seval]) <;> exact q2) trivial ⟨rfl,rfl,rfl⟩
theorem UL {p:Pf} (h:p.p.length=13):Kj p = .st 2 (.fcons 0 (W p.v) (.fcons 1 (.lst 32 13 (Fw p.p)) .fnil)):=by rw [Kj,h]
theorem QH (ok:OkM M) (root:Dg) (i:BitVec 64) (hi:i.toNat < 8192) (p:Pf) (hp:p.p.length=13) (hh:¬ D7 i.toNat (BN p.v) p.p 13=root) (u:BitVec 64) :
 Ae M 52 [dg root,W i,Kj p,W u] [] 0 (Q3 (Ai (dg Dg.zero) (Cn (some 31))) [] 0):=by
 refine Ab ok.k52 rfl fun x hx=>?_;rw [UL hp];refine eX ?_;simp only [f52,c52,LZ,seval];have zz:=Cv @m9 @m6 @b7;refine Dh (FO ok root i.toNat hi p.v p.p hp) ?_;simp only [Bb,AA,dg0,eq_false hh,seval];refine Ap.mk hx [] [] (Ai (dg Dg.zero) (.ifc 74 (.int .i64 31))) [] 0 Al (by (simp only [Di,seval])) (by (try simp only [KR,seval]) <;> exact q2) trivial ⟨rfl,rfl,rfl⟩
theorem Ma (ok:OkCk M) (root:Dg) (pre:Pr) :
 Ae M 601 [.ptr 0 []] [(0,(⟨root,[],pre⟩:Ck).vv)] 1 (Q3 (Ai (.st 2 (.fcons 0 (W 0#64) (.fcons 1 .nils .fnil))) (Cn (some 3))) [(0,(⟨root,[],pre⟩:Ck).vv)] 1):=by
 refine Ab ok.k601 rfl fun x hx=>?_;refine eX ?_;simp only [Alo,Anc,Ck.vv,List.length_nil,LZ,seval];have zz:=AY Zj @AA;exact AI hx [0] ⟨rfl,rfl,rfl⟩
theorem L5 (ok:OkCk M) (root:Dg) (pre:Pr) (p:Pf) (l:List Pf) :
 Ae M 601 [.ptr 0 []] [(0,(⟨root,p :: l,pre⟩:Ck).vv)] 1 (Q3 (Ai (Kj p) .nili) [(0,(⟨root,l,pre⟩:Ck).vv)] 1):=by
 refine Ab ok.k601 rfl fun x hx=>?_;have e0:(((l.length + 1:Nat):Int)=0)=False:=eq_false Aa;have e1:Ff (p :: l) 0=Kj p:=rfl;have e2:l.length + 1 - 1=l.length:=rfl;have e3:∀ i,Ff (p :: l) (1 + i)=Ff l i:=fun i=>by rw [Nat.add_comm];rfl
 refine eX ?_;simp only [Alo,Anc,Ck.vv,List.length_cons,e0,e1,e2,e3,Kj,LZ,seval];repeat refine sd ?_
 have zz:=AY Zj @m6;exact AI hx [0] ⟨rfl,rfl,rfl⟩
def ckR (c:Ck) (a:BitVec 64):BitVec 64 × Option Int × Ck :=
 match c with
 | ⟨root,[],pre⟩=>(0#64,some 3,⟨root,[],pre⟩)
 | ⟨root,p :: l,pre⟩=>(p.v,if ¬ p.p.length=13 then some 3 else if D7 a.toNat (BN p.v) p.p 13=root then none else some 31,⟨root,l,pre⟩)
def ckW (c:Ck) (a v:BitVec 64):Option Int × Ck :=
 match c with
 | ⟨root,[],pre⟩=>(some 3,⟨root,[],pre⟩)
 | ⟨root,p :: l,pre⟩=>if ¬ p.p.length=13 then (some 3,⟨root,l,pre⟩) else if D7 a.toNat (BN p.v) p.p 13=root then (none,⟨D7 a.toNat (BN v) p.p 13,l,pre⟩) else (some 31,⟨root,l,pre⟩)
def ckP (c:Ck) (h:Dg):Pr × Option Int × Ck:=if Co c.pre.at=h then (c.pre,none,c) else (Pr.zero,some 31,c)
def ckM:Mm Ck:=⟨ckR,ckW,ckP⟩
theorem Rl (okA:OkM M) (ok:OkCk M) (c:Ck) (a:BitVec 64) (ha:¬ 8192#64≤a) :
 Ae M 599 [.ptr 0 [],W a] [(0,c.vv)] 1 (Q3 (Ai (W (ckR c a).1) (Cn (ckR c a).2.1)) [(0,(ckR c a).2.2.vv)] 1):=by
 refine Ab ok.k599 rfl fun x hx=>?_;obtain ⟨root,l,pre⟩:=c;cases l with
 | nil =>
   refine eX ?_;simp only [Za,XS,LZ,seval];have zz:=AY @Ck.vv.eq_1 Zj;refine By [0] [0] (Ma ok root pre) ?_;simp only [Uv,AA,Bb,seval];simp only [ckR,AA];have zz:=@F7;exact AI hx [0] ⟨rfl,rfl,rfl⟩
 | cons p l =>
   have h:=L5 ok root pre p l;by_cases hp:p.p.length=13
   ·by_cases hf:D7 a.toNat (BN p.v) p.p 13=root
    ·simp only [ckR,hp,hf,Lb9,BS];rw [UL hp] at h;refine eX ?_;simp only [Za,XS,LZ,seval];have zz:=AY @Ck.vv.eq_1 Zj;refine By [0] [0] (h) ?_;simp only [Je,Ck.vv,seval];have zz:=Cv @m9 @m6 @b7;refine Ge (FO okA root a.toNat (pfl a ha) p.v p.p hp) ?_;simp only [Bb,eq_true hf,seval];have zz:=AY Jq @b7;exact AI hx [0] ⟨rfl,rfl,rfl⟩
    ·simp only [ckR,hp,hf,not_true_eq_false,if_false,AA];rw [UL hp] at h;refine eX ?_;simp only [Za,XS,LZ,seval];have zz:=AY @Ck.vv.eq_1 Zj;refine By [0] [0] (h) ?_;simp only [Je,Ck.vv,seval];have zz:=Cv @m9 @m6 @b7;refine Ge (FO okA root a.toNat (pfl a ha) p.v p.p hp) ?_;simp only [Bb,eq_false hf,seval];have zz:=AY Jq @b7;exact AI hx [0] ⟨rfl,rfl,rfl⟩
   ·simp only [ckR,hp,not_false_eq_true,if_true,AA];refine eX ?_;simp only [Za,XS,LZ,seval];have zz:=AY @Ck.vv.eq_1 Zj;refine By [0] [0] (h) ?_;simp only [Je,Ck.vv,Kj,seval];have zz:=D0 @Kj.eq_1 @m6 @b7 @AA;refine Ge (JP okA root a ha p hp) ?_;simp only [Bb,AA,seval];have zz:=AY Jq @b7;exact AI hx [0] ⟨rfl,rfl,rfl⟩
theorem Aa1 (okA:OkM M) (ok:OkCk M) (c:Ck) (a v:BitVec 64) (ha:¬ 8192#64≤a) :
 Ae M 600 [.ptr 0 [],W a,W v] [(0,c.vv)] 1 (Q3 (Cn (ckW c a v).1) [(0,(ckW c a v).2.vv)] 1):=by
 refine Ab ok.k600 rfl fun x hx=>?_;obtain ⟨root,l,pre⟩:=c;cases l with
 | nil =>
   refine eX ?_;simp only [Aa3,Yx,LZ,seval];have zz:=AY @Ck.vv.eq_1 Zj;refine By [0] [0] (Ma ok root pre) ?_;simp only [Uv,AA,Bb,seval];simp only [ckW,AA];have zz:=@F7;exact AI hx [0] ⟨rfl,rfl,rfl⟩
 | cons p l =>
   have h:=L5 ok root pre p l;by_cases hp:p.p.length=13
   ·by_cases hf:D7 a.toNat (BN p.v) p.p 13=root
    ·simp only [ckW,hp,hf,Lb9,BS];rw [UL hp] at h;refine eX ?_;simp only [Aa3,Yx,LZ,seval];have zz:=AY @Ck.vv.eq_1 Zj;refine By [0] [0] (h) ?_;simp only [Je,Ck.vv,seval];have zz:=Cv @m9 @m6 @b7;refine Ge (T8 okA root a.toNat (pfl a ha) p.v p.p hp hf v) ?_;simp only [Bb,seval];have zz:=AY Jq @b7;exact AI hx [0] ⟨rfl,rfl,rfl⟩
    ·simp only [ckW,hp,hf,not_true_eq_false,if_false,AA];refine eX ?_;simp only [Aa3,Yx,LZ,seval];have zz:=AY @Ck.vv.eq_1 Zj;refine By [0] [0] (h) ?_;simp only [Je,Ck.vv,Kj,seval];have zz:=Em @m9 @Kj.eq_1 @m6 @b7 @AA;refine Ge (QH okA root a (pfl a ha) p hp hf v) ?_;simp only [Bb,AA,seval];have zz:=AY Jq @b7;exact AI hx [0] ⟨rfl,rfl,rfl⟩
   ·simp only [ckW,hp,not_false_eq_true,if_true,AA];refine eX ?_;simp only [Aa3,Yx,LZ,seval];have zz:=AY @Ck.vv.eq_1 Zj;refine By [0] [0] (h) ?_;simp only [Je,Ck.vv,Kj,seval];have zz:=D0 @Kj.eq_1 @m6 @b7 @AA;refine Ge (PK okA root a ha p hp v) ?_;simp only [Bb,AA,seval];have zz:=AY Jq @b7;exact AI hx [0] ⟨rfl,rfl,rfl⟩
theorem Zx (okA:OkM M) (okH:OkH M) (ok:OkCk M) (c:Ck) (h:Dg) :
 Ae M 598 [.ptr 0 [],dg h] [(0,c.vv)] 1 (Q3 (Ai (AL (ckP c h).1) (Cn (ckP c h).2.1)) [(0,(ckP c h).2.2.vv)] 1):=by
 refine Ab ok.k598 rfl fun x hx=>?_;obtain ⟨root,l,pre⟩:=c;have hs:∀ q:Pr,Du okA okH q.at=Du okA okH q.at:=fun _=>rfl;by_cases hd:Co pre.at=h
 ·simp only [ckP,hd,if_true,BS];refine eX ?_;simp only [Ak8,Ama,Ck.vv,Bn,seval];have zz:=@l6;refine Ge (Du okA okH pre.at) ?_;simp only [hd,Bn,seval];have zz:=Cv Jq @b7 @LM;exact AI hx [0] ⟨rfl,rfl,rfl⟩
 ·simp only [ckP,hd,if_false,AA];refine eX ?_;simp only [Ak8,Ama,Ck.vv,Bn,seval];have zz:=@l6;refine Ge (Du okA okH pre.at) ?_;simp only [eq_false hd,Bn,Vu,seval];have zz:=Cv Jq @b7 @LM;exact AI hx [0] ⟨rfl,rfl,rfl⟩
theorem up1 {f:Nat} {us:List V} {v:V} {H Hn:Hp} {k kn:Nat} (h:Ae M f us H k (Q3 v Hn kn)):Ae M f us H k (Q3 v Hn (kn + 1)):=by
 intro e vs h1 h2 h3;refine (h e vs h1 h2 h3).mono ?_;rintro en w' ⟨x,v,e',H',k',a,b,c,d,f,g,rfl,rfl,rfl⟩;exact ⟨x,v,e',_,_,a,b,c,d,fun id hid=>f id Aa,by omega,rfl,rfl,rfl⟩
def ckI (okA:OkM M) (okH:OkH M) (ok:OkCk M):MemI M where
 σ:=Ck
 t:=426
 ht:=.inr rfl
 k0:=1
 kk:=1
 hk:=Aa
 E c _:=[(0,c.vv)]
 E0 c:=[(0,c.vv)]
 mm:=ckM
 Z _:=True
 len _:=0
 lr _ _:=Nat.zero_le _
 lw _ _ _:=Nat.zero_le _
 lp _ _:=Nat.zero_le _
 lz _ _:=rfl
 hids s b i h:=by simp [Ag] at h;omega
 hids0 s i h:=by simp [Ag] at h;omega
 sim0 s H m z hm hH:=by
  obtain ⟨h1,h2⟩:=hH 0 rfl;simp only [BC,hm 0 Aa,h1,h2,Jb];exact F7 _ _ _ _
 simE s b b' H m z _ hm _ hH:=by
  obtain ⟨h1,h2⟩:=hH 0 rfl;simp only [BC,hm 0 Aa,h1,h2,Jb];exact F7 _ _ _ _
 c0 {f us us' v s s'} own {n K} hr hus hv ho hK:=by
  have h0:Ag own 0=false:=by
   cases hh:Ag own 0 with
   | false=>rfl
   | true=>have:=(ho 0 hh).1;omega
  refine D5 (E':=[(0,s'.vv)]) [0] [0] hr All B9 B9 ⟨rfl,by omega⟩ (by simp [Ag,h0]) (by simp [Ag]) (hus _ _ _ rfl) ?_ rfl rfl hv (fun i hi=>?_) hK
  ·refine ⟨⟨by rw [Bx];simp [Ag],?_⟩,trivial⟩;rw [Bk h0];exact F7 _ _ _ _
  ·simp [Ag] at hi;subst hi;exact h0
 ck {f us us' v s s' b} own {n K} hr hus hv _ ho hK:=by
  have h0:Ag own 0=false:=by
   cases hh:Ag own 0 with
   | false=>rfl
   | true=>have:=(ho 0 hh).1;omega
  refine D5 (E':=[(0,s'.vv)]) [0] [0] hr All B9 B9 ⟨rfl,by omega⟩ (by simp [Ag,h0]) (by simp [Ag]) (hus _ _ _ rfl) ?_ rfl rfl hv (fun i hi=>?_) hK
  ·refine ⟨⟨by rw [Bx];simp [Ag],?_⟩,trivial⟩;rw [Bk h0];exact F7 _ _ _ _
  ·simp [Ag] at hi;subst hi;exact h0
 cu {f us us' v s s' b} own {n K} hr hus hv _ ho hK:=by
  have h0:Ag own 0=false:=by
   cases hh:Ag own 0 with
   | false=>rfl
   | true=>have:=(ho 0 hh).1;omega
  refine D5 (E':=[(0,s'.vv)]) [0] [0] hr All B9 B9 ⟨rfl,by omega⟩ (by simp [Ag,h0]) (by simp [Ag]) (hus _ _ _ rfl) ?_ rfl rfl hv (fun i hi=>?_) hK
  ·refine ⟨⟨by rw [Bx];simp [Ag],?_⟩,trivial⟩;rw [Bk h0];exact F7 _ _ _ _
  ·simp [Ag] at hi;subst hi;exact h0
 fr:=599
 fw:=600
 fp:=598
 mr:=ok.m0
 mw:=ok.m1
 mp:=ok.m2
 rr0 s a _ ha:=up1 (Rl okA ok s a ha)
 rr s a _ ha:=up1 (Rl okA ok s a ha)
 rw s a v _ ha:=up1 (Aa1 okA ok s a v ha)
 rp s h:=up1 (Zx okA okH ok s h)
def j7:=@Ck.vv.eq_1
def Ak7:LC:=(sr [A1 2 (.mv (.c .nilp))] (.seq (sr [mt 3 0,A1 4 (.eq false true .ptr (.t 3) (.c .nilp))] (.cond (.t 4) (sr [A1 2 (.mv (.c .nilp))] .ret) .skip)) (.seq (.regd [⟨0,0,mt 5 0⟩,⟨1,1,nc 6 5⟩,⟨2,3,fa 7 0 6⟩,⟨3,7,lb 8 1 7⟩,⟨4,15,kl 9 276 [(.t 8)]⟩,⟨5,0,mt 10 0⟩,⟨6,32,nc 11 10⟩,⟨7,96,fa 12 1 11⟩,⟨8,224,lb 13 1 12⟩,⟨9,0,A1 14 (.mkmap zD .bool)⟩,⟨10,1023,A1 15 (.build (.st (.cons .map (.cons .ptr (.cons .map (.cons .slice .nil))))) [(.f 0,1,(.t 9)),(.f 1,1,(.t 13)),(.f 2,1,(.t 14))])⟩,⟨11,2047,bX 16 15⟩,⟨12,4095,mt 2 16⟩]) .ret)))
def Alq:LF:=⟨Ak7,1,0,17,[.tmp 2]⟩
def Am2:LC:=(sr [A1 2 (.mv (.c .nilm))] (.seq (sr [mt 3 0,A1 4 (.eq false true (.nils 1) (.t 3) (.c .nilm))] (.cond (.t 4) (sr [A1 2 (.mv (.c .nilm))] .ret) .skip)) (sr [mt 5 0,A1 6 (.mkif 362 (.t 5)),A1 7 (.mclone (.t 6)),A1 8 (.tas 362 (.t 7)),mt 2 8] .ret)))
def Al0:LF:=⟨Am2,1,0,9,[.tmp 2]⟩
variable {M:Seat}
structure OkPr (M:Seat):Prop where
 k167:Ar M 167 Alq=true
 k276:Ar M 276 Al0=true
 k595:Ar M 595 An1=true
 k596:Ar M 596 YY=true
 k597:Ar M 597 Amj=true
 m0:Dc M 422 0 596
 m1:Dc M 422 1 597
 m2:Dc M 422 2 595
def stP (va:V):V:=.st 4 (.fcons 0 (.map 3) (.fcons 1 (.ptr 4 []) (.fcons 2 (.map 5) (.fcons 3 va .fnil))))
def IR (lv:V) (pre:Pr):V:=.st 67 (.fcons 0 (.ptr 1 []) (.fcons 1 (.ptr 2 []) (.fcons 2 lv (.fcons 3 (AL pre) .fnil))))
def Lby:=(Cv @f8 @IR.eq_1 @stP.eq_1)
def BD (f:Nat→BitVec 64) (a:BitVec 64):Pf:=⟨f a.toNat,pth f a.toNat⟩
theorem Aei (f:Nat→BitVec 64) (i:Nat):(pth f i).length=13:=by simp [pth]
theorem Adt (f:Nat→BitVec 64) (i h:Nat) (hh:h < 13):(pth f i).getD h Dg.zero=Cd f h ((i / 2 ^ h) ^^^ 1):=by
 simp [pth,List.getD,hh]
theorem Wq {α:Type} (g:α→V) (d:α) (l:List (Dg × α)) (t id n:Nat) (H:Hp):ZK (BG g d l) t id n H=⟨Ag H id=true,.ifc t (.map n),(n,BG g d l) :: H⟩:=rfl
theorem Amd (c:Bool) (i:Nat):AR c (.nils 1) (.map i) .nilm=True:=by simp [AR]
theorem Aly (i:Nat):AX (.nils 1) (.map i) .nilm=false:=rfl
theorem I1 {H:Hp} {m z:List Nat} {id:Nat} (f:Nat→BitVec 64) (a:BitVec 64) (h1:N5 H z id=true) (h2:hget H id = .ar 32 13 fun h=>dg (Cd f h (a.toNat / 2 ^ h ^^^ 1))):Ay H m z (Kj (BD f a)) (.st 2 (.fcons 0 (W (f a.toNat)) (.fcons 1 (.sl id [] 0 13 32) .fnil))):=by
 simp only [Kj,BD,Aei,Ay,W,Jb];refine ⟨h1,trivial,?_⟩;rw [h2];simp only [V.get];refine ⟨trivial,by omega,fun i hi=>?_⟩;have:Fw (pth f a.toNat) i=dg (Cd f i (a.toNat / 2 ^ i ^^^ 1)):=by rw [Fw,Adt f _ _ hi]
 rw [this,Nat.zero_add];exact (AJ _ _ _ _ _).mpr rfl
theorem Mu (ok:OkPr M) (l:List (Dg × Pr)) :
 Ae M 276 [.map 0] [(0,BG AL Pr.zero l)] 1 (Q3 (.map 1) [(0,BG AL Pr.zero l),(1,BG AL Pr.zero l)] 2):=by
 refine Ab ok.k276 rfl fun x hx=>?_;refine eX ?_;simp only [Al0,Am2,Amd,Aly,Wq,LZ,seval];have zz:=@Cg;exact AI hx [0,81] ⟨rfl,rfl,rfl⟩
theorem SP (okA:OkM M) (ok:OkPr M) (f g:Nat→BitVec 64) (pc:BitVec 64) (hl:Bool) (xt:BitVec 64) (pre:Pr) (pres:List (Dg × Pr)) (q:Nat) (a:BitVec 64) (ha:¬ 8192#64≤a) :
 Ae M 596 [.ptr 0 [],W a] [(0,IR .nils pre),(1,mach f g pc hl xt),(2,stP (.nils)),(3,BG AL Pr.zero pres)] 6
  (Q3 (Ai (W (f a.toNat)) .nili) [(0,IR (.sl 6 [] 0 1 2) pre),(1,mach f g pc hl xt),(2,stP (.nils)),(3,BG AL Pr.zero pres),(6,.ar 2 1 (Ff [BD f a]))] 7):=by
 refine Ab ok.k596 rfl fun x hx=>?_;refine eX ?_;simp only [YY,Ab5,IR,LZ,seval];have zz:=AY @m9 @c7;refine Jp (F1 okA f g pc hl xt a.toNat (pfl a ha)) ?_;simp only [Bb,seval];refine Ap.mk hx [0,1,2,3,4,5,502] [118] (Ai (W (f a.toNat)) .nili) [(0,IR (.sl 6 [] 0 1 2) pre),(1,mach f g pc hl xt),(2,stP (.nils)),(3,BG AL Pr.zero pres),(6,.ar 2 1 (Ff [BD f a]))] 7 Al (by (simp only [Di,seval])) (by (simp only [KR,seval])) ?_ ⟨rfl,rfl,rfl⟩;simp only [IR,stP,BI,seval,Jb];intro i hi;obtain rfl:i=0:=Aa;exact I1 f a Ca rfl
theorem NU (okA:OkM M) (ok:OkPr M) (f g:Nat→BitVec 64) (pc:BitVec 64) (hl:Bool) (xt:BitVec 64) (pre:Pr) (pres:List (Dg × Pr)) (q:Nat) (l:List Pf) (hL:l.length≤100) (a:BitVec 64) (ha:¬ 8192#64≤a) :
 Ae M 596 [.ptr 0 [],W a] [(0,IR (.sl 6 [] 0 l.length 2) pre),(1,mach f g pc hl xt),(2,stP (.nils)),(3,BG AL Pr.zero pres),(6,.ar 2 l.length (Ff l))] 7
  (Q3 (Ai (W (f a.toNat)) .nili) [(0,IR (.sl 7 [] 0 (l ++ [BD f a]).length 2) pre),(1,mach f g pc hl xt),(2,stP (.nils)),(3,BG AL Pr.zero pres),(7,.ar 2 (l ++ [BD f a]).length (Ff (l ++ [BD f a])))] (7 + 1)):=by
 refine Ab ok.k596 rfl fun x hx=>?_;refine eX ?_;simp only [YY,Ab5,IR,LZ,seval];have zz:=Cv @m9 @c7 @BW;refine Jp (F1 okA f g pc hl xt a.toNat (pfl a ha)) ?_;simp only [Bb,seval];repeat refine sd ?_
 refine Ap.mk hx [0,1,2,3,4,5,6,503] [119] (Ai (W (f a.toNat)) .nili) [(0,IR (.sl 7 [] 0 (l ++ [BD f a]).length 2) pre),(1,mach f g pc hl xt),(2,stP (.nils)),(3,BG AL Pr.zero pres),(7,.ar 2 (l ++ [BD f a]).length (Ff (l ++ [BD f a])))] 8 Al (by (simp only [Di,seval])) (by (simp only [KR,seval])) ?_ ⟨rfl,rfl,rfl⟩;have e0:(l ++ [BD f a]).length=l.length + 1:=B9;simp only [e0,IR,stP,BI,seval,Jb];intro i hi;by_cases h:i < l.length
 ·rw [if_pos h];have:Ff (l ++ [BD f a]) i=Ff l i:=by simp only [Ff,List.getD_eq_getElem?_getD,List.getElem?_append_left h]
  rw [this];exact (BW _ _ _ _ _).mpr trivial
 ·obtain rfl:i=l.length:=Aa;have:Ff (l ++ [BD f a]) l.length=Kj (BD f a):=by simp only [Ff,List.getD_eq_getElem?_getD,List.getElem?_append_right (Nat.le_refl _),Nat.sub_self];rfl
  rw [if_neg h,Nat.sub_self,if_pos rfl,this];exact I1 f a Ca rfl
theorem W4 (okA:OkM M) (ok:OkPr M) (f g:Nat→BitVec 64) (pc:BitVec 64) (hl:Bool) (xt:BitVec 64) (pre:Pr) (pres:List (Dg × Pr)) (q:Nat) (l:List Pf) (hL:l.length≤100) (a v:BitVec 64) (ha:¬ 8192#64≤a) :
 Ae M 597 [.ptr 0 [],W a,W v] [(0,IR (.sl 6 [] 0 l.length 2) pre),(1,mach f g pc hl xt),(2,stP (.nils)),(3,BG AL Pr.zero pres),(6,.ar 2 l.length (Ff l))] 7
  (Q3 .nili [(0,IR (.sl 7 [] 0 (l ++ [BD f a]).length 2) pre),(1,mach (JB f a.toNat v) g pc hl xt),(2,stP (.nils)),(3,BG AL Pr.zero pres),(7,.ar 2 (l ++ [BD f a]).length (Ff (l ++ [BD f a])))] (7 + 1)):=by
 refine Ab ok.k597 rfl fun x hx=>?_;have ha':=pfl a ha;have hR:=NU okA ok f g pc hl xt pre pres q l hL a ha;generalize l ++ [BD f a]=l' at *
 refine eX ?_;simp only [Amj,Akk,LZ,seval];have zz:=D0 @IR.eq_1 @stP.eq_1 @c7 Jq;refine By [0,1,2,3,4,5,6] [0,1,2,3,6] (hR) ?_;simp only [Je,IR,stP,mach,seval];repeat refine sd ?_
 have zz:=AY UR Jq;exact AI hx [0,1,2,3,4,5,6,55] ⟨rfl,rfl,rfl⟩
theorem Fb (ok:OkPr M) (q:Nat) (pres:List (Dg × Pr)) :
 Ae M 167 [.ptr 0 []] [(0,.st 4 (.fcons 0 (.map 1) (.fcons 1 (.ptr 2 []) (.fcons 2 (.map 3) (.fcons 3 (.nils) .fnil))))),(1,BG AL Pr.zero pres)] 4
  (Q3 (.ptr 4 []) [(0,.st 4 (.fcons 0 (.map 1) (.fcons 1 (.ptr 2 []) (.fcons 2 (.map 3) (.fcons 3 (.nils) .fnil))))),(1,BG AL Pr.zero pres),(4,.st 4 (.fcons 0 (.map 5) (.fcons 1 (.ptr 2 []) (.fcons 2 (.map 6) (.fcons 3 .nils .fnil))))),(5,BG AL Pr.zero pres),(6,Cs [])] 7):=by
 refine Ab ok.k167 rfl fun x hx=>?_;refine eX ?_;simp only [Alq,Ak7,LZ,seval];have zz:=@Cg;refine U2 [1] (Mu ok pres) ?_;simp only [Bn,seval];have zz:=AY @Cs.eq_1 @Cg;exact AI hx [0,1,2,3,228,324,196] ⟨rfl,rfl,rfl⟩
theorem Nl (ok:OkO M) (pres:List (Dg × Pr)) (h:Dg) :
 Ae M 328 [.ptr 0 [],dg h] [(0,.st 4 (.fcons 0 (.map 1) (.fcons 1 (.ptr 2 []) (.fcons 2 (.map 3) (.fcons 3 .nils .fnil))))),(1,BG AL Pr.zero pres),(3,Cs [])] 4
  (Q3 (DU (En h pres)) [(1,BG AL Pr.zero pres)] 4):=by
 have hsv:∀ l:List (Dg × Bool),BG V.bool false l=Cs l:=fun _=>rfl;have hn:En h ([]:List (Dg × Bool))=none:=rfl;refine Ab ok.k328 rfl fun x hx=>?_;generalize ho:En h pres=o at *
 cases o;all_goals refine eX ?_;simp only [Xu,Xa,Cs,ho,hn,Bn,seval]
 all_goals refine Ap.mk hx [0,1,2,3] [] (DU _) [(1,BG AL Pr.zero pres)] 4 Al (by simp only [Vk,Cz,Yp,seval]) (by simp only [Vk,DU,Cz,Yp,seval];simp only [Lc3,BI,seval];try exact fun _ _=>rfl) ?_ ⟨rfl,rfl,rfl⟩
 all_goals simp only [BI,seval]
def pgR (o:Option Pr):V:=match o with
 | some p=>Ai (AL p) .nili
 | none=>Ai (AL Pr.zero) (.ifc 74 (.int .i64 14))
def pgP (o:Option Pr):Pr:=match o with
 | some p=>p
 | none=>Pr.zero
theorem Xs (ok:OkPr M) (okO:OkO M) (f g:Nat→BitVec 64) (pc:BitVec 64) (hl:Bool) (xt:BitVec 64) (pre:Pr) (pres:List (Dg × Pr)) (q:Nat) (l:List Pf) (h:Dg) :
 Ae M 595 [.ptr 0 [],dg h] [(0,IR (.sl 6 [] 0 l.length 2) pre),(1,mach f g pc hl xt),(2,stP (.nils)),(3,BG AL Pr.zero pres),(6,.ar 2 l.length (Ff l))] 7
  (Q3 (pgR (En h pres)) [(0,IR (.sl 6 [] 0 l.length 2) (pgP (En h pres))),(1,mach f g pc hl xt),(2,stP (.nils)),(3,BG AL Pr.zero pres),(6,.ar 2 l.length (Ff l))] 7):=by
 refine Ab ok.k595 rfl fun x hx=>?_;have hC:=Fb ok q pres;have hG:=Nl okO pres h;refine eX ?_;simp only [An1,An4,IR,LZ,seval];have zz:=AY @stP.eq_1 @Cg;refine G6 [2,3,4,5] [2,3] (hC) ?_;simp only [stP,A3,Bn,seval];cases ho:En h pres with
 | none =>
   rw [ho] at hG;simp only [DU] at hG;have zz:=AY @Bf @Cg;refine G6 [327,328,4,329] [327,328,329] (hG) ?_;simp only [Cz,Vu,seval];have zz:=aq9 @pgR.eq_1 @pgR.eq_2 @pgP.eq_1 @pgP.eq_2 @HZ Jq @stP.eq_1 Lc3 @LM;exact AI hx [0,1,2,3,4,5,6] ⟨rfl,rfl,rfl⟩
 | some p =>
   rw [ho] at hG;simp only [DU] at hG;have zz:=AY @Bf @Cg;refine G6 [327,328,4,329] [327,328,329] (hG) ?_;simp only [Cz,Vu,seval];have zz:=Qe @pgR.eq_1 @pgR.eq_2 @pgP.eq_1 @pgP.eq_2 @HZ Jq @stP.eq_1 @LM;exact AI hx [0,1,2,3,4,5,6] ⟨rfl,rfl,rfl⟩
def a0d:=@stP.eq_1
end Mv
