/- A part. -/
import Derived.Test.YtfljfijnobocoaaDoorGT
set_option linter.all false
set_option maxRecDepth 20000
set_option maxHeartbeats 4000000
namespace Mv
open Go
def Dd:Nat→Dg
 | 0=>Dg.zero
 | h + 1=>Ajh (Dd h) (Dd h)
theorem NB {M:Seat} (ok:OkM M) :
 As M 315 [] [] 0 (Q3 (.ar 32 17 (fun j=>dg (Dd j))) [] 0):=by
 refine Ac ok.k315 rfl fun x hx=>?_;refine es 30 ?_;simp only [Aib,Amj,GR,↓Ax,ex,Ro,Cr,Dy,step,seval];refine Au (σ:=Nat) (fun i=>1≤i∧i≤17) (fun i=>fr 19 [(0,.ptr 0 []),(1,.ptr 1 []),(2,.int .i64 i)])
  (fun i=>[(0,.ar 32 17 (fun _=>dg Dg.zero)),(1,.ar 32 17 (fun j=>dg (if j < i then Dd j else Dg.zero)))]) (fun _=>2) (fun i=>17 - i) 1 Aa ?_ ?_
 ·refine Av.fr [0,16] [] hx Bg Ab ?_ ?_
  ·simp only [Me,seval]
  ·simp only [Me,seval,dg0];intro j hj;by_cases h:j < 1
   ·rw [if_pos h];have:j=0:=Aa;subst this;rfl
   ·rw [if_neg h]
 ·intro i ⟨hi1,hi⟩;(refine es 40 ?_;simp (maxSteps:=2000000) only [Lar,↓Ax,ex,Ro,Cr,Dy,step,seval]);refine ⟨fun hlt=>?_,fun hge=>?_⟩
  ·have hlt:(i:Int)≤16:=by simpa using hlt
   have w1:IntKind.i64.wrap ((i:Int) - 1)=((i - 1:Nat):Int):=B7;have w2:IntKind.i64.wrap ((i:Int) + 1)=((i + 1:Nat):Int):=B7;simp only [w1,Int.toNat_natCast,if_pos (show i - 1 < i by omega)];repeat refine sd ?_
   refine ⟨_,_,BT (Ti ok _ _) ⟨(Kt _ _ _ _ _).mpr rfl,(Kt _ _ _ _ _).mpr rfl,trivial⟩ rfl ⟨rfl,rfl⟩,?_⟩;simp only [GR,↓Ax,ex,Ro,Cr,Dy,step,seval];repeat refine sd ?_
   refine ⟨i + 1,⟨by omega,by omega⟩,by omega,?_⟩;refine Av.fr [0,1] [] hx Bg Ab ?_ ?_
   ·simp only [Me,seval,w2]
   ·simp only [Me,seval];intro j hj;by_cases h1:j=i
    ·subst h1;rw [if_pos rfl,if_pos Aa];obtain ⟨p,rfl⟩:∃ p,j=p + 1:=⟨j - 1,by omega⟩
     rfl
    ·rw [if_neg h1];by_cases h2:j < i
     ·rw [if_pos h2,if_pos Aa]
     ·rw [if_neg h2,if_neg Aa]
  ·have hge:¬ (i:Int)≤16:=by simpa using hge
   have hi17:i=17:=Aa;subst hi17;refine Ay.mk hx [] [] (.ar 32 17 (fun j=>dg (Dd j))) [] 0 Ab ?_ ?_ trivial ⟨rfl,rfl,rfl⟩
   ·simp only [EO,H9,GR,↓Ax,ex,Ro,Cr,Dy,step,seval]
   ·simp only [La6,LR,↓Ax,ex,Ro,Cr,Dy,step,seval];intro j hj;rw [if_pos hj]
def AP (a b:V):V:=.tup (.fcons 0 a (.fcons 1 b .fnil))
def Cz (a b c:V):V:=.tup (.fcons 0 a (.fcons 1 b (.fcons 2 c .fnil)))
theorem Vm {M:Seat} (ok:OkM M) (h:Nat) (hh:h≤16) :
 As M 197 [.int .i64 h] [] 0 (Q3 (AP (dg (Dd h)) .nili) [] 0):=by
 refine Ac ok.k197 rfl fun x hx=>?_;refine es 30 ?_;simp only [Ala,Al7,GR,↓Ax,ex,Ro,Cr,Dy,step,seval];have h1:decide ((h:Int) < 0)=false:=BF;have h2:decide ((16:Int) < h)=false:=F6;simp only [h1,h2,GR,↓Ax,ex,Ro,Cr,Dy,step,seval];refine BT (NB ok) trivial rfl ?_;simp only [GR,↓Ax,ex,Ro,Cr,Dy,step,seval];repeat refine sd ?_
 refine Ay.mk hx [] [] (AP (dg (Dd h)) .nili) [] 0 Ab ?_ ?_ trivial ⟨rfl,rfl,rfl⟩
 ·simp only [Laj,Lk,GR,↓Ax,ex,Ro,Cr,Dy,step,seval];rfl
 ·simp only [La6,KI,AP,LR,↓Ax,ex,Ro,Cr,Dy,step,seval,dg]
def b7:=@AP.eq_1
def row (l:List Dg):V:=.lst 32 l.length (dgs l)
def AL (f g:Nat→BitVec 64) (pc:BitVec 64) (hl:Bool) (ex:BitVec 64):V :=
 .st 8211 (.fcons 0 (.ar 1 8192 (fun j=>W (f j))) (.fcons 8192 (.ar 1 16 (fun j=>W (g j))) (.fcons 8208 (W pc) (.fcons 8209 (.bool hl) (.fcons 8210 (W ex) .fnil)))))
def b5:=@AL.eq_1
theorem Ajt (ts:List Nat):AQ true (.iface ts) .nili .nili=True:=by simp [AQ]
theorem Alq (ts:List Nat):AX (.iface ts) .nili .nili=true:=rfl
theorem Aiw (c:Bool) (ts:List Nat) (t:Nat) (v:V):AQ c (.iface ts) (.ifc t v) .nili=True:=by simp [AQ]
theorem Ali (ts:List Nat) (t:Nat) (v:V):AX (.iface ts) (.ifc t v) .nili=false:=by cases v <;> rfl
theorem Ajz (c:Bool) (i:Nat) (p:List Stp):AQ c .ptr (.ptr i p) .nilp=True:=by simp [AQ]
theorem Ai1 (i:Nat) (p:List Stp):AX .ptr (.ptr i p) .nilp=false:=rfl
theorem Ahs (c:Bool) (v:V):AQ c .ptr (.imm v) .nilp=True:=by simp [AQ]
theorem Ale (v:V):AX .ptr (.imm v) .nilp=false:=rfl
def Aod (m r:Nat) (pc:BitVec 64) (hl:Bool) (ex:BitVec 64):V :=
 .st 5 (.fcons 0 (.sl m [] 0 8192 1) (.fcons 1 (.sl r [] 0 16 1) (.fcons 2 (W pc) (.fcons 3 (.bool hl) (.fcons 4 (W ex) .fnil)))))
def Apn (f g:Nat→BitVec 64) (pc:BitVec 64) (hl:Bool) (xt:BitVec 64) (m:Nat):Hp :=
 [(m,AL f g pc hl xt),(m + 1,Aod (m + 2) (m + 3) pc hl xt),(m + 2,.ar 1 8192 (fun j=>W (f j))),(m + 3,.ar 1 16 (fun j=>W (g j)))]
theorem Rw (f g:Nat→BitVec 64) (pc:BitVec 64) (hl:Bool) (xt:BitVec 64):(AL f g pc hl xt).solid=true:=rfl
theorem Yn (H:Hp) (m z:List Nat) (f g:Nat→BitVec 64) (pc:BitVec 64) (hl:Bool) (xt:BitVec 64):Aw H m z (AL f g pc hl xt) (AL f g pc hl xt):=by
 simp only [AL,Me,seval]
def Df (f:Nat→BitVec 64) (i:Nat) (v:BitVec 64) (j:Nat):BitVec 64:=if j=i then v else f j
def Lc1:=(BK @R4 @Df.eq_1)
theorem QT {M:Seat} {f:Nat} {us us0:List V} {H:Hp} {n:Nat} {K:V→Hp→Prop} {v:V} (z:List Nat) (hr:As M f us0 [] 0 (Q3 v [] 0)) (hus:Bh H [] z us0 us) (hv:v.ren (Bo [] n 0)=v) (hn:AG v) (hK:K v H):Bk M f us H n K:=by
 refine EE hr True [] z List.nodup_nil BF rfl BF hus trivial ?_;rintro v' H' k' ⟨rfl,rfl,rfl⟩;refine ⟨⟨by omega,fun _=>⟨hn,fun id h=>by simp [Af] at h⟩⟩,?_⟩;rw [hv];simpa [Bf,AH] using hK
theorem Ag5 (c:Bool):AQ c .ptr .nilp .nilp=True:=rfl
theorem Ai3:AX .ptr .nilp .nilp=true:=rfl
theorem Alh (c:Bool) (ts:List Nat) (t:Nat) (v:V):AQ c (.iface ts) .nili (.ifc t v)=True:=by cases v <;> simp [AQ]
theorem Aiq (ts:List Nat) (t:Nat) (v:V):AX (.iface ts) .nili (.ifc t v)=false:=by cases v <;> rfl
theorem An4 (c a b:Bool):AQ c .bool (.bool a) (.bool b)=True:=rfl
theorem Amo (a b:Bool):AX .bool (.bool a) (.bool b)=(a == b):=by cases a <;> cases b <;> rfl
theorem Alt (c:Bool) (k:IntKind) (a b:Int):AQ c .int (.int k a) (.int k b)=True:=by simp [AQ]
theorem Am6 (k k':IntKind) (a b:Int):AX .int (.int k a) (.int k' b)=decide (a=b):=rfl
theorem Ao3 (c:Bool) (a b:Int):AQ c (.iface [74]) (.ifc 74 (.int .i64 a)) (.ifc 74 (.int .i64 b))=True:=by simp [AQ]
theorem Aot (ts:List Nat) (t:Nat) (a b:Int):AX (.iface ts) (.ifc t (.int .i64 a)) (.ifc t (.int .i64 b))=decide (a=b):=by simp [AX]
theorem Anb (a b:Prop):(bif true then a else b)=a:=rfl
theorem Aoh (a b:Prop):(bif false then a else b)=b:=rfl
theorem Aqa (f:X→V) (a:X) (l:List X):(a :: l).map f=f a :: l.map f:=rfl
theorem Aqf (f:X→V):([]:List X).map f=[]:=rfl
theorem Aqr {a b:Bool}:(bif true then a else b)=a:=rfl
theorem Ano (f:X→V):(none:Option X).map f=none:=rfl
theorem Anf (f:X→V) (a:X):(some a).map f=some (f a):=rfl
theorem Aoc (a:V) (l m:List V):a :: l ++ m=a :: (l ++ m):=rfl
theorem fcT (a b:List (Nat × Hp)):(bif true then a else b)=a:=rfl
theorem fcF (a b:List (Nat × Hp)):(bif false then a else b)=b:=rfl
theorem flN (f:Nat × Nat × V→Bool):([]:List (Nat × Nat × V)).filter f=[]:=rfl
theorem Aqu (a:LOp) (l:List LOp):(a :: l).length=l.length + 1:=rfl
theorem neN (a b:Nat):(a ≠ b) = ¬ (a=b):=rfl
theorem neI (a b:Int):(a ≠ b) = ¬ (a=b):=rfl
theorem neW (a b:BitVec 64):(a ≠ b) = ¬ (a=b):=rfl
theorem nlz (n:Nat):(n < 0)=False:=BF
theorem bTF:(true == false)=false:=rfl
theorem bFT:(false == true)=false:=rfl
theorem Aqq:([]:List LOp).length=0:=rfl
def LG:=(DC (BK (ED @Aov @Yl @Adq @Adx @Xh @XG @Yp @Agx @Ac4 @Akz @Aiy) (ED @Uh @Ad8 @Vg @Acs @ZO @Acb @WY @Zr @Uc @Ad6 @Ace)) (BK (ED @Afg @Aaz @XS @Adb @Aax @XR @Aeb @Y4 @Aa7 @WJ @VV) (De @Aih @Aex @Ah6 @Aa1 @Aau @Ahu @Acz @Afk @Aju @Aew @Ame @Apd)) (BK (ED @Amu @Ajf @Ak5 @Alr @Ag4 @Ww @Xt @UW @Afn @Aba @Ad1) (De @YU @Aie @Ahg @ZV @XI @Ajq @Acg @Akl @Agm @Ahl @Ya @Ae5)) (BK (ED @Acv @Wt @Aav @Ad2 @Agn @Aa2 @VS @Ry @Ahx @Ah8 @Aeu) (De @ZU @Aka @Aal @Aec @Ah4 @Aeq @Ab2 @Abl @Uu @ZD @Od @Ve)) (BK (ED @ZN @Yt @Ac5 @Q2 @QH @SG @St @Ady @WK @R7 @WB) (De @UZ @Mb @Abb @Xe @Aa4 @Aag @Acc @Ac3 @Ak7 @Ahi @Agj @Ak3)) (BK (ED @Ag3 @Agw @Akb @Aht @Agi @Ag8 @Ajl @Ah9 @Acy @Ad9 @Aky) (De @Ai2 @Ac1 @Akp @Aiv @Ahv @Alj @Aev @Aoa @Acr @Ajp @MT @Nk)) (BK (ED @J2 @Hr @HR @GI @GV @Kn @Kc @Nw @M8 @YG @XB) (De @Z2 @Y0 @WX @Z8 @Z3 @Wq @Alp @Ahd @VZ @X7 @WM @W7)) (BK (ED @VH @ZF @Zb @VP @Xd @Aqs @Aqw @Apw @Apu @Ana @Ap6) (De @Ack @Abu @Aa6 @Ab0 @Ako @RoN @Abm @Alu @Apj @Vb @Ye @Afm)) (BK (ED @Aou @An6 @An2 @Wc @YQ @Wd @VE @Ado @Aqy @exZ @exN) (De @Akw @Al1 @Ag6 @Anv @ZZ @Agd @Agk @Amt @Any @Amb @Ax @QC)) (BK (ED @Kf @Fj @Kq @Ih @BS @not_false_eq_true @true_and @and_true @true_or @or_true @and_self) (De @false_and @and_false @neN @neI @neW @not_true_eq_false @Jf @Q6 @YH @Jw @QX @Yx)) (BK (ED @E4 @MD @Qa @JS @OJ @JX @HJ @Jh @Gm @EV @Gt) (De @Fa @Gn @Gq @EQ @HE @Gs @Fx @Gp @EW @HK @EX @G6)) (BK (ED @Hw @HL @K3 @Ig @JB @Ie @K0 @JR @HV @Nf @JN) (De @Ic @size_map @Ir @NC @Im @JF @N4 @NE @MI @J5 @MH @KN)) (BK (ED @No @Ni @J9 @QJ @Nm @Kd @ND @Ks @PY @KM @Nz) (De @PI @Rp @Bool.not_true @Bool.not_false @Bool.and_true @Bool.true_and @Bool.or_true @Bool.true_or @Bool.or_false @Bool.false_or @Bool.false_and @Bool.and_false)) (BK (ED @Bool.false_xor @Bool.xor_false @Bool.true_xor @Bool.xor_true @Bool.not_not @Bool.and_self @Bool.or_self @Int.toNat_natCast @Int.toNat_zero @Nat.add_zero @Nat.zero_add) (De @Nat.sub_zero @Int.natCast_zero @Nat.mul_zero @Nat.zero_or @Nat.or_zero @Nat.and_zero @Nat.zero_and @Nat.zero_shiftRight @decide_true @decide_false @Aj5 @Ajb)) (BK (ED @Ago @and_assoc @Ajt @Alq @Aiw @Ali @Alh @Aiq @Ajz @Ai1 @Ahs) (De @Ale @Ag5 @Ai3 @An4 @Amo @Alt @Am6 @Ao3 @Aot @Bool.false_eq_true @Bool.true_eq_false @false_implies)) (BK (ED @true_implies @Anb @Aoh @Aqa @Aqf @Aqr @Ano @Anf @Aoc @Nat.le_refl @Int.le_refl) (De @fcT @fcF @flN @Aqu @Aqq @nlz @bTF @bFT @Aop @Ca.eq_1 @Ca.eq_2 @Ca.eq_3)))
variable {M:Seat}
theorem Inv.sim2 {c c':Ctx} {e:Env} {H:Hp} (hI:Inv M c e H) {m z:List Nat} (hm:m.Nodup) (hz:∀ i ∈ z,i ∉ m) {H':Hp} (hH:B3 H m z H')
 (hc:(c'=c∧∀ j,j < c.k→m[j]?=some j) ∨ (c'=⟨e.sim H m z,fun b=>∃ id,Af H' id=true∧(e.sim H m z).ρ id=b,m.length⟩)):Inv M c' (e.sim H m z) H':=by
 have hp:=Pull.of hI m z;have hblk:∀ j,Af H' j=true→(e.sim H m z).D j∧C2 (e.sim H m z) j (hget H' j)∧¬ (e.sim H m z).im ((e.sim H m z).ρ j)∧(c.O ((e.sim H m z).ρ j) ∨ c.e0.w.heap.size≤(e.sim H m z).ρ j):=by
  intro j hj;obtain ⟨i,h1,h2,h3⟩:=CN hH j hj;obtain ⟨k1,k2,k3,k4⟩:=hI.blk i h2;have hρ:(e.sim H m z).ρ j=e.ρ i:=by simp [Env.sim,h1]
  refine ⟨⟨i,h1,k1⟩,Lu hp hρ h3 k2,?_,?_⟩
  ·rw [hρ];rintro (h | ⟨i',hf,he⟩)
   ·exact k3 h
   ·obtain ⟨f1,f2,_⟩:=Fc hf;have:=hI.inj i i' h2 f2 he;subst this;exact hz _ f1 (List.mem_of_getElem? h1)
  ·rw [hρ];exact k4
 have hinj:∀ i j,Af H' i=true→Af H' j=true→(e.sim H m z).ρ i=(e.sim H m z).ρ j→i=j:=by
  intro i j hi hj hij;obtain ⟨i',h1,h2,_⟩:=CN hH i hi;obtain ⟨j',h3,h4,_⟩:=CN hH j hj;simp only [Env.sim,h1,h3] at hij;have:=hI.inj i' j' h2 h4 hij;subst this;exact getElem?_nodup hm h1 h3
 have himo:∀ b,(e.sim H m z).im b→c.e0.im b ∨ c.O b ∨ c.e0.w.heap.size≤b:=by
  rintro b (h | ⟨i,hf,rfl⟩)
  ·exact hI.imo b h
  ·exact .inr (hI.blk i (Fc hf).2.1).2.2.2
 have himb:∀ b,(e.sim H m z).im b→(∃ cells el fz,(e.sim H m z).w.heap[b]?=some (.cells cells el fz)) ∨ ∃ es ck,(e.sim H m z).w.heap[b]?=some (.map es ck):=by
  rintro b (h | ⟨i,hf,rfl⟩)
  ·exact hI.imb b h
  ·rcases (Bool.or_eq_true _ _).mp hf with hf | hf
   ·obtain ⟨_,cells,el,h1,_⟩:=hp.fz i hf;exact .inl ⟨cells,el,_,h1⟩
   ·obtain ⟨_,h1⟩:=hp.fm i hf;obtain ⟨n,ks,vs,hg⟩:=Sh hf;rw [hg] at h1;obtain ⟨es,ck,h2,_⟩:=h1;exact .inr ⟨es,ck,h2⟩
 have hrb:∀ id,(e.sim H m z).D id→(e.sim H m z).ρ id < (e.sim H m z).w.heap.size:=by
  rintro id ⟨i,h1,h2⟩;simp only [Env.sim,h1];exact hI.rb i h2
 have hgs:GS M (e.sim H m z):=⟨fun g hg =>
  BN hp (show Aw H m z (.imm (U8 g)) (.imm (U8 g)) from SW H m z g) (hI.gs.1 g hg),fun p hp'=>⟨.inl (hI.gs.2 p hp').1,(hI.gs.2 p hp').2⟩⟩
 rcases hc with ⟨rfl,hlow⟩ | rfl
 ·refine ⟨hI.ev,hblk,hinj,himo,himb,hrb,fun b hb=>.inl (hI.keep b hb),fun id hid=>?_,hgs,hI.φ,hI.τ⟩;obtain ⟨h1,h2⟩:=hI.low id hid;have hd:(e.sim H m z).D id ↔ e.D id:=⟨fun ⟨i,k1,k2⟩=>by rw [hlow id hid,Option.some.injEq] at k1;exact k1 ▸ k2,fun h=>⟨id,hlow id hid,h⟩⟩
  exact ⟨hd.trans h1,fun h=>by simp only [Env.sim,hlow id hid];exact h2 (hd.1 h)⟩
 ·refine ⟨Ev.refl _ _,fun j hj=>⟨(hblk j hj).1,(hblk j hj).2.1,(hblk j hj).2.2.1,.inl ⟨j,hj,rfl⟩⟩,hinj,fun b hb=>.inl hb,himb,hrb,fun b hb=>hb,fun id hid=>⟨Iff.rfl,fun _=>rfl⟩,hgs,hI.φ,hI.τ⟩
def E7 (i:Nat):V→Bool
 | .ptr j _=>j == i
 | .map j=>j == i
 | .sl j _ _ _ _=>j == i
 | .ifc _ v=>E7 i v
 | .imm v=>E7 i v
 | .st _ fs=>E7 i fs
 | .fcons _ v r=>E7 i r || E7 i v
 | _=>false
theorem Ep {e:Env} {i:Nat}:∀ {v:V} {cs:List Value},R e v cs→E7 i v=true→e.D i
 | .ptr j p,cs,h,hi=>by simp only [E7,beq_iff_eq] at hi;subst hi;simp only [R] at h;exact h.1
 | .map j,cs,h,hi=>by simp only [E7,beq_iff_eq] at hi;subst hi;simp only [R] at h;exact h.1
 | .sl j _ _ _ _,cs,h,hi=>by simp only [E7,beq_iff_eq] at hi;subst hi;simp only [R] at h;exact h.1
 | .ifc _ v, cs, h, hi => by
   simp only [R] at h;obtain ⟨x,_,_,h⟩:=h;split at h
   ·obtain ⟨c,_,h⟩:=h;exact Ep h hi
   ·exact Ep h hi
 | .imm v, cs, h, hi => by
   simp only [R] at h;obtain ⟨_,_,_,_,_,_,_,_,_,h⟩:=h;exact Ep h hi
 | .st _ fs,cs,h,hi=>by simp only [R] at h;exact Ep h.2.2 hi
 | .fcons _ v r, cs, h, hi => by
   simp only [R] at h;simp only [E7,Bool.or_eq_true] at hi;exact hi.elim (Ep h.2.2.2.2) (Ep h.2.2.2.1)
 | .junk,_,_,hi | .int ..,_,_,hi | .bool _,_,_,hi | .str _,_,_,hi | .nilp,_,_,hi | .nils,_,_,hi | .lst ..,_,_,hi | .nilm,_,_,hi | .nilf,_,_,hi | .fn ..,_,_,hi | .nili,_,_,hi | .ar ..,_,_,hi | .fnil,_,_,hi | .tup _,_,_,hi | .mp ..,_,_,hi | .fm ..,_,_,hi=>by simp [E7] at hi
def DV (us:List V) (i:Nat):Bool:=us.any fun v=>match v with | .ptr j _=>j == i | .map j=>j == i | .sl j _ _ _ _=>j == i | .imm w=>E7 i w | _=>false
theorem VR {e:Env} {us:List V} {vs:Array Value} (h:Ob e us vs) {i:Nat} (hi:DV us i=true):e.D i:=by
 unfold DV at hi;rw [List.any_eq_true] at hi;obtain ⟨v,hv,hvi⟩:=hi;obtain ⟨t,ht,rfl⟩:=List.getElem_of_mem hv;have:=h.2 t;rw [show us.getD t .junk=us[t] by simp [List.getD,ht]] at this;generalize us[t]=v at *
 cases v <;> simp only [Bool.false_eq_true,beq_iff_eq] at hvi;case imm w =>
  simp only [RV,RS,V.isAgg,R] at this;obtain ⟨_,_,_,_,_,_,_,_,_,h⟩:=this;exact Ep h hvi
 all_goals (subst hvi;simp only [RV,RS,V.isAgg,R] at this;exact this.1)
def Qq (l:List Nat) (H:Hp) (i:Nat):Bool:=l.any fun p=>Af H p && (hget H p).solid && E7 i (hget H p)
theorem Ai7 {c:Ctx} {e:Env} {l:List Nat} {H:Hp} (hI:Inv M c e H) {i:Nat} (hi:Qq l H i=true):e.D i:=by
 unfold Qq at hi;rw [List.any_eq_true] at hi;obtain ⟨p,_,hp⟩:=hi;simp only [Bool.and_eq_true] at hp;obtain ⟨_,_,_,_,hR⟩:=hI.cells hp.1.1 hp.1.2;exact Ep hR hp.2
theorem GY {f:Nat} {us:List V} {H:Hp} {n:Nat} {K:V→Hp→Prop} {us0:List V} {H0:Hp} {k:Nat} {Q:V→Hp→Nat→Prop} (hr:As M f us0 H0 k Q) (L:Prop) [Decidable L] (m m0 z:List Nat) (h0:∀ id i,Af H0 id=true→m[id]?=some i→i ∈ m0) (h0m:∀ i ∈ m0,i ∈ m)
 (hm:m.Nodup) (hz:∀ i ∈ z,i ∉ m) (hk:m.length=k) (hmn:∀ i ∈ m,i < n) (hus:Bh H m z us0 us) (hH:B3 H m z H0)
 (hK:∀ v H' k',Q v H' k'→(k'≤k + 16∧(L→AG v∧Oy H'))∧K (v.ren (Bo m n k')) (Bf (Bo m n k') H' ++ AH H (if L then m0 else m0 ++ z))):Bk M f us H n K:=by
 intro c e vs hI hD hcn ⟨hvs,hargs⟩;subst hk;have hp:=Pull.of hI m z;have hI2:Inv M ⟨e.sim H m z,fun b=>∃ id,Af H0 id=true∧(e.sim H m z).ρ id=b,m.length⟩ (e.sim H m z) H0:=hI.sim2 hm hz hH (.inr rfl);refine (hr (e.sim H m z) vs hI2 ?_ ⟨hvs.trans (Hm hus).symm,fun t=>N9 hp (HN hus t) (hargs t)⟩).mono ?_
 ·rintro id hid ⟨i,h1,_⟩;have:=(List.getElem?_eq_some_iff.1 h1).1;omega
 rintro en w' ⟨x,v,e2,H',k',rfl,rfl,hI',hv,hD',hkk,hQ⟩;obtain ⟨⟨hk16,hL⟩,hKK⟩:=hK v H' k' hQ;have hO:∀ b,(∃ id,Af H0 id=true∧(e.sim H m z).ρ id=b)→∃ i ∈ m0,Af H i=true∧e.ρ i=b:=by
  rintro b ⟨id,h1,h2⟩;obtain ⟨i,k1,k2,_⟩:=CN hH id h1;exact ⟨i,h0 id i h1 k1,k2,by simpa [Env.sim,k1] using h2⟩
 have hsame:∀ b,b < e.w.heap.size→(∀ i ∈ m0,Af H i=true→e.ρ i ≠ b)→e2.w.heap[b]?=e.w.heap[b]?:=fun b hb hn =>
  hI'.ev.frame b hb (fun ho=>by obtain ⟨i,h1,h3,h2⟩:=hO b ho;exact hn i h1 h3 h2)
 have hsize:e.w.heap.size≤e2.w.heap.size:=hI'.ev.size
 let e' : Env := { ρ := fun i => if n ≤ i then e2.ρ (m.length + (i - n)) else e.ρ i
                   D:=fun i=>e.D i ∨ (n≤i∧e2.D (m.length + (i - n)))
                   im:=fun b=>if L then e.im b else e2.im b
                   w:=e2.w,φ:=e2.φ,τ:=e2.τ }
 have hφ:e2.φ=e.φ:=hI'.φ.trans hI.φ.symm;have hτ:e2.τ=e.τ:=hI'.τ.trans hI.τ.symm;have him2:∀ b,e.im b→e2.im b:=fun b hb=>hI'.keep b (.inl hb);have him':∀ b,e.im b→e'.im b:=fun b hb=>by
  show if L then _ else _;split
  ·exact hb
  ·exact him2 b hb
 have him2':∀ b,e'.im b→e2.im b:=fun b hb=>by
  have hb:if L then e.im b else e2.im b:=hb;split at hb
  ·exact him2 b hb
  ·exact hb
 have hρold:∀ i,e.D i→e'.ρ i=e.ρ i:=fun i hi=>by
  show (if n≤i then _ else _)=_;rw [if_neg (fun h=>hD i h hi)]
 have hle:e.le e':=by
  refine ⟨fun i hi=>⟨.inl hi,hρold i hi⟩,fun b hb=>⟨him' b hb,fun cc el fz hc=>⟨el,fz,?_⟩,fun es ck hc=>?_⟩,hI'.ev.bs,hφ,hτ⟩
  ·show e2.w.heap[b]?=_;rw [hsame b (hI.imlt b hb) (fun i hi hq he=>(hI.blk i hq).2.2.1 (he ▸ hb))];exact hc
  ·show e2.w.heap[b]?=_;rw [hsame b (hI.imlt b hb) (fun i hi hq he=>(hI.blk i hq).2.2.1 (he ▸ hb))];exact hc
 have hpush:Push L (Bo m n k') e2 e':=by
  refine ⟨fun j hj=>?_,fun hnl b hb=>?_,rfl,rfl,rfl⟩
  ·have hjk:j < k':=Nat.lt_of_not_le (fun h=>hD' j h hj);have hg:=NU (n:=n) hkk j hjk;by_cases hjm:j < m.length
   ·rw [dif_pos hjm] at hg;have hmj:e.D m[j]:=by
     obtain ⟨i,h1,h2⟩:=(hI'.low j hjm).1.1 hj;rw [List.getElem?_eq_getElem hjm,Option.some.injEq] at h1;exact h1 ▸ h2
    refine ⟨m[j],hg,.inl hmj,?_⟩;rw [hρold _ hmj];have:=(hI'.low j hjm).2 hj;rw [this];simp [Env.sim,List.getElem?_eq_getElem hjm]
   ·rw [dif_neg hjm] at hg;have e1:m.length + (n + (j - m.length) - n)=j:=Aa;refine ⟨_,hg,.inr ⟨by omega,by rw [e1];exact hj⟩,?_⟩;show (if _ then _ else _)=_;rw [if_pos Aa,e1]
  ·show if L then _ else _;rw [if_neg hnl];exact hb
 have hnd:(Bo m n k').Nodup:=JV hm hmn;have hnew:∀ b,(∃ id,Af H0 id=true∧(e.sim H m z).ρ id=b) ∨ (e.sim H m z).w.heap.size≤b→c.O b ∨ c.e0.w.heap.size≤b:=by
  rintro b (h | h)
  ·obtain ⟨i,h1,h3,rfl⟩:=hO b h;exact (hI.blk i h3).2.2.2
  ·have h:e.w.heap.size≤b:=h;have:=hI.ev.size;exact .inr Aa
 have hold:∀ id,Af (AH H (if L then m0 else m0 ++ z)) id=true→Af H id=true∧id ∉ m0∧(¬ L→id ∉ z)∧hget (AH H (if L then m0 else m0 ++ z)) id=hget H id:=by
  intro id hid;rw [GX] at hid;simp only [X5,List.contains_eq_mem,decide_eq_false_iff_not] at hid;refine ⟨hid.1,?_,?_,GP _ _ _ hid.2⟩
  ·intro h';apply hid.2;split
   ·exact h'
   ·exact List.mem_append_left _ h'
  ·intro hnl h';apply hid.2;rw [if_neg hnl];exact List.mem_append_right _ h'
 have hrenb:∀ id,Af (Bf (Bo m n k') H') id=true→∃ j,Af H' j=true∧e'.D id∧e'.ρ id=e2.ρ j∧(Bo m n k')[j]?=some id∧hget (Bf (Bo m n k') H') id=(hget H' j).ren (Bo m n k'):=by
  intro id hid;obtain ⟨j,h1,h2,h3⟩:=Hu hnd hid;obtain ⟨i,k1,k2,k3⟩:=hpush.D j (hI'.blk j h2).1;rw [h1] at k1;simp only [Option.some.injEq] at k1;subst k1;exact ⟨j,h2,k2,k3,h1,h3⟩
 refine ⟨x,v.ren (Bo m n k'),e',Bf (Bo m n k') H' ++ AH H (if L then m0 else m0 ++ z),rfl,rfl,hle,?_,R6 hpush (fun hl=>(hL hl).1) hv,?_,hKK⟩
 ·have hblk:∀ id,Af (Bf (Bo m n k') H' ++ AH H (if L then m0 else m0 ++ z)) id=true→(Af (Bf (Bo m n k') H') id=true∧hget (Bf (Bo m n k') H' ++ AH H (if L then m0 else m0 ++ z)) id=hget (Bf (Bo m n k') H') id) ∨ (Af (AH H (if L then m0 else m0 ++ z)) id=true∧hget (Bf (Bo m n k') H' ++ AH H (if L then m0 else m0 ++ z)) id=hget (AH H (if L then m0 else m0 ++ z)) id):=by
   intro id hid;rw [FK] at hid;cases hr':Af (Bf (Bo m n k') H') id with
   | true=>exact .inl ⟨rfl,Ey hr'⟩
   | false=>rw [hr',Bool.false_or] at hid;exact .inr ⟨hid,Eu hr'⟩
  have hsep:∀ i j,Af H i=true→i ∉ m0→Af H' j=true→e.ρ i ≠ e2.ρ j:=by
   intro i j hi him hj he;rcases (hI'.blk j hj).2.2.2 with h | h
   ·obtain ⟨i',h1,h3,h2⟩:=hO _ h;exact him (by rw [hI.inj i i' hi h3 (he.trans h2.symm)];exact h1)
   ·have h:e.w.heap.size≤e2.ρ j:=h;have:=hI.rb i (hI.blk i hi).1;omega
  refine ⟨?_,?_,?_,?_,?_,?_,fun b hb=>him' b (hI.keep b hb),?_,hI.gs.mono hle,hI'.φ,hI'.τ⟩
  ·exact hI.ev.trans hI'.ev (fun b hb=>by
    obtain ⟨i,h1,h3,rfl⟩:=hO b hb;rcases (hI.blk i h3).2.2.2 with h | h
    ·exact .inl h
    ·exact .inr h)
  ·intro id hid;rcases hblk id hid with ⟨h1,h2⟩ | ⟨h1,h2⟩
   ·obtain ⟨j,k1,k2,k3,k4,k5⟩:=hrenb id h1;obtain ⟨q1,q2,q3,q4⟩:=hI'.blk j k1;rw [h2,k5,k3];exact ⟨k2,Kh hpush k3 (fun hl=>(hL hl).2 j k1) q2,fun h=>q3 (him2' _ h),hnew _ q4⟩
   ·obtain ⟨k1,k2,k3,k4⟩:=hold id h1;obtain ⟨q1,q2,q3,q4⟩:=hI.blk id k1;have hne:∀ i ∈ m0,Af H i=true→e.ρ i ≠ e.ρ id:=fun i hi hq he=>k2 (by rw [← hI.inj i id hq k1 he];exact hi);rw [h2,k4,hρold id q1];refine ⟨.inl q1,BA hle q1 (hsame _ (hI.rb id q1) hne) q2,?_,q4⟩;intro h;have h:if L then e.im (e.ρ id) else e2.im (e.ρ id):=h;split at h
    ·exact q3 h
    ·rename_i hnl;rcases hI'.imo _ h with h | h | h
     ·rcases h with h | ⟨i,hf,he⟩
      ·exact q3 h
      ·obtain ⟨f1,f2,_⟩:=Fc hf;rw [hI.inj id i k1 f2 he] at k3;exact k3 hnl f1
     ·obtain ⟨i,h1,h3,h2⟩:=hO _ h;exact hne i h1 h3 h2
     ·have h:e.w.heap.size≤e.ρ id:=h;have:=hI.rb id q1;omega
  ·intro i j hi hj hij;rcases hblk i hi with ⟨h1,_⟩ | ⟨h1,_⟩ <;> rcases hblk j hj with ⟨h2,_⟩ | ⟨h2,_⟩
   ·obtain ⟨a,a1,_,a3,a4,_⟩:=hrenb i h1;obtain ⟨b,b1,_,b3,b4,_⟩:=hrenb j h2;rw [a3,b3] at hij;have:=hI'.inj a b a1 b1 hij;subst this;rw [a4] at b4;simpa using b4
   ·obtain ⟨a,a1,_,a3,_⟩:=hrenb i h1;obtain ⟨b1,b2,_⟩:=hold j h2;rw [a3,hρold j (hI.blk j b1).1] at hij;exact absurd hij.symm (hsep j a b1 b2 a1)
   ·obtain ⟨a,a1,_,a3,_⟩:=hrenb j h2;obtain ⟨b1,b2,_⟩:=hold i h1;rw [a3,hρold i (hI.blk i b1).1] at hij;exact absurd hij (hsep i a b1 b2 a1)
   ·obtain ⟨b1,_⟩:=hold i h1;obtain ⟨b2,_⟩:=hold j h2;rw [hρold i (hI.blk i b1).1,hρold j (hI.blk j b2).1] at hij;exact hI.inj i j b1 b2 hij
  ·intro b hb;have hb:if L then e.im b else e2.im b:=hb;split at hb
   ·exact hI.imo b hb
   ·rcases hI'.imo b hb with h | h | h
    ·rcases h with h | ⟨i,hf,rfl⟩
     ·exact hI.imo b h
     ·exact .inr (hI.blk i (Fc hf).2.1).2.2.2
    ·exact .inr (hnew b (.inl h))
    ·exact .inr (hnew b (.inr h))
  ·intro b hb;exact hI'.imb b (him2' b hb)
  ·intro id hid;rcases hid with hid | ⟨h1,h2⟩
   ·rw [hρold id hid];have:=hI.rb id hid;show e.ρ id < e2.w.heap.size;omega
   ·show (if n≤id then _ else _) < _;rw [if_pos h1];exact hI'.rb _ h2
  ·intro id hid;obtain ⟨h1,h2⟩:=hI.low id hid;have hres:∀ {p:Prop},(e.D id ∨ (n≤id∧p))→e.D id:=fun h=>h.resolve_right (fun h=>by have:=h.1;have:id < c.k:=hid;omega);exact ⟨⟨fun h=>h1.1 (hres h),fun h=>.inl (h1.2 h)⟩,fun hd=>(hρold id (hres hd)).trans (h2 (hres hd))⟩
 ·rintro id (h | ⟨h1,h2⟩)
  ·exact .inl h
  ·refine .inr ⟨h1,?_⟩;have:=Nat.lt_of_not_le (fun h=>hD' _ h h2);omega
theorem J0 {f:Nat} {us:List V} {H:Hp} {n:Nat} {K:V→Hp→Prop} {us0:List V} {H0:Hp} {k:Nat} {Q:V→Hp→Nat→Prop} (hr:As M f us0 H0 k Q) (L:Prop) [Decidable L] (m m0 z:List Nat) (h0:∀ id i,Af H0 id=true→m[id]?=some i→i ∈ m0) (h0m:∀ i ∈ m0,i ∈ m)
 (hm:m.Nodup) (hz:∀ i ∈ z,i ∉ m) (hk:m.length=k) (hall0:∀ i ∈ m0,Af H i=true) (hall:∀ i ∈ m,Af H i=true ∨ DV us i=true ∨ Qq m0 H i=true) (hus:Bh H m z us0 us) (hH:B3 H m z H0)
 (hK:∀ v H' k',Q v H' k'→(k'≤k + 16∧(L→AG v∧Oy H'))∧K (v.ren (Bo m n k')) (Bf (Bo m n k') H' ++ AH H (if L then m0 else m0 ++ z))):Bk M f us H n K:=by
 intro c e vs hI hD hcn ha;have hmD:∀ i ∈ m,e.D i:=fun i hi=>(hall i hi).elim (fun h=>(hI.blk i h).1) (fun h=>h.elim (VR ha) (Ai7 hI));exact GY hr L m m0 z h0 h0m hm hz hk (fun i hi=>Nat.lt_of_not_le (fun h=>hD i h (hmD i hi))) hus hH hK c e vs hI hD hcn ha
theorem Re {f:Nat} {us:List V} {H:Hp} {n:Nat} {K:V→Hp→Prop} {us0:List V} {H0:Hp} {k:Nat} {Q:V→Hp→Nat→Prop} (hr:As M f us0 H0 k Q) (L:Prop) [Decidable L] (m m0 z:List Nat) (h0:∀ id i,Af H0 id=true→m[id]?=some i→i ∈ m0) (h0m:∀ i ∈ m0,i ∈ m)
 (hm:m.Nodup) (hz:∀ i ∈ z,i ∉ m) (hk:m.length=k) (hall0:∀ i ∈ m0,Af H i=true) (hall:∀ i ∈ m,Af H i=true ∨ DV us i=true) (hus:Bh H m z us0 us) (hH:B3 H m z H0)
 (hK:∀ v H' k',Q v H' k'→(k'≤k + 16∧(L→AG v∧Oy H'))∧K (v.ren (Bo m n k')) (Bf (Bo m n k') H' ++ AH H (if L then m0 else m0 ++ z))):Bk M f us H n K :=
 J0 hr L m m0 z h0 h0m hm hz hk hall0 (fun i hi=>(hall i hi).imp_right .inl) hus hH hK
end Mv
