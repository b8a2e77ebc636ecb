/- A part. -/
import Derived.Test.YtfljfijnobocoaaDoorCZ
import Derived.Test.YtfljfijnobocoaaDoorDC
set_option linter.all false
set_option maxRecDepth 20000
set_option maxHeartbeats 4000000
namespace Mv
open Go
theorem P2 (f g:Nat→BitVec 64) (pc:BitVec 64) (hl:Bool) (xt:BitVec 64):(A3 f g pc hl xt).solid=true:=rfl
theorem IW (H:Hp) (m z:List Nat) (f g:Nat→BitVec 64) (pc:BitVec 64) (hl:Bool) (xt:BitVec 64):Az H m z (A3 f g pc hl xt) (A3 f g pc hl xt):=by
 simp only [A3,Bo,seval]
def FI (f:Nat→BitVec 64) (i:Nat) (v:BitVec 64) (j:Nat):BitVec 64:=if j=i then v else f j
def Zh:=(Bb @NM @FI.eq_1)
theorem PE {M:Seat} {f:Nat} {us us0:List V} {H:Hp} {n:Nat} {K:V→Hp→Prop} {v:V} (z:List Nat) (hr:Ag M f us0 [] 0 (Q3 v [] 0)) (hus:Bd H [] z us0 us) (hv:v.ren (Bh [] n 0)=v) (hn:AC v) (hK:K v H):AR M f us H n K:=by
 refine BE hr True [] z List.nodup_nil B5 rfl B5 hus trivial ?_
 rintro v' H' k' ⟨rfl,rfl,rfl⟩
 refine ⟨⟨by omega,fun _=>⟨hn,fun id h=>by simp [Af] at h⟩⟩,?_⟩
 rw [hv]
 simpa [AV,A6] using hK
theorem Aco (c:Bool):AD c .ptr .nilp .nilp=True:=rfl
theorem Abz:AK .ptr .nilp .nilp=true:=rfl
theorem Ac9 (c:Bool) (ts:List Nat) (t:Nat) (v:V):AD c (.iface ts) .nili (.ifc t v)=True:=by cases v <;> simp [AD]
theorem Ad7 (ts:List Nat) (t:Nat) (v:V):AK (.iface ts) .nili (.ifc t v)=false:=by cases v <;> rfl
theorem Aeu (c a b:Bool):AD c .bool (.bool a) (.bool b)=True:=rfl
theorem Ai1 (a b:Bool):AK .bool (.bool a) (.bool b)=(a == b):=by cases a <;> cases b <;> rfl
theorem Ae8 (c:Bool) (k:IntKind) (a b:Int):AD c .int (.int k a) (.int k b)=True:=by simp [AD]
theorem Aft (k k':IntKind) (a b:Int):AK .int (.int k a) (.int k' b)=decide (a=b):=rfl
theorem Ahp (c:Bool) (a b:Int):AD c (.iface [74]) (.ifc 74 (.int .i64 a)) (.ifc 74 (.int .i64 b))=True:=by simp [AD]
theorem Ait (ts:List Nat) (t:Nat) (a b:Int):AK (.iface ts) (.ifc t (.int .i64 a)) (.ifc t (.int .i64 b))=decide (a=b):=by simp [AK]
theorem Ail (a b:Prop):(bif true then a else b)=a:=rfl
theorem Ae7 (a b:Prop):(bif false then a else b)=b:=rfl
theorem Ajv (f:X→V) (a:X) (l:List X):(a :: l).map f=f a :: l.map f:=rfl
theorem Ajd (f:X→V):([]:List X).map f=[]:=rfl
theorem Ajb {a b:Bool}:(bif true then a else b)=a:=rfl
theorem Aed (f:X→V):(none:Option X).map f=none:=rfl
theorem Aem (f:X→V) (a:X):(some a).map f=some (f a):=rfl
theorem Zk (a:V) (l m:List V):a :: l ++ m=a :: (l ++ m):=rfl
theorem fcT (a b:List (Nat × Hp)):(bif true then a else b)=a:=rfl
theorem fcF (a b:List (Nat × Hp)):(bif false then a else b)=b:=rfl
theorem flN (f:Nat × Nat × V→Bool):([]:List (Nat × Nat × V)).filter f=[]:=rfl
theorem Ajg (a:LOp) (l:List LOp):(a :: l).length=l.length + 1:=rfl
theorem neN (a b:Nat):(a ≠ b) = ¬ (a=b):=rfl
theorem neI (a b:Int):(a ≠ b) = ¬ (a=b):=rfl
theorem neW (a b:BitVec 64):(a ≠ b) = ¬ (a=b):=rfl
theorem nlz (n:Nat):(n < 0)=False:=B5
theorem bTF:(true == false)=false:=rfl
theorem bFT:(false == true)=false:=rfl
theorem Aj0:([]:List LOp).length=0:=rfl
def LG:=(Hq (Bb (BT @Agf @T8 @YT @Xb @U3 @U5 @Tg @Adj @XB @Aa6 @Abf) (BT @S0 @Xr @Rt @XM @YV @XU @Vk @Th @Si @Xm @WR)) (Bb (BT @W6 @WB @VC @WF @XR @VE @WV @Wc @Yc @Vw @Vb) (FU @Acr @Zb @Acj @Xz @XA @Aea @XW @Yh @Aaw @YN @Ahj @Aix)) (Bb (BT @Ag9 @Adl @Ac3 @Aaf @Ad6 @TQ @U0 @S1 @W3 @Xd @WM) (FU @UD @ZS @ZC @X3 @U1 @Abo @XH @Ab5 @Aba @Aeb @Vf @Yy)) (Bb (BT @WN @UE @Y5 @Y8 @Ado @Ye @UN @OR @ZD @Anj @W2) (FU @Amx @An4 @Amz @Ane @Anv @Am7 @Am8 @X9 @Rw @VP @MP @Sc)) (Bb (BT @XI @T5 @Yj @Adk @Adp @Xn @Xo @Yg @T3 @Qk @VB) (FU @R6 @KS @YZ @Vz @XN @WI @Xh @Y7 @Adu @Aar @Ad5 @Aab)) (Bb (BT @Aak @Ab1 @ZE @ZU @Adi @ZR @Abs @ZN @X7 @WQ @Abe) (FU @Adf @Xi @ZW @Acf @Ady @Aa5 @Xx @Aep @Xj @Abj @Ms @Mj)) (Bb (BT @Jg @GC @GK @FF @FL @Ix @II @Ll @Mn @V5 @Wp) (FU @V8 @V6 @VW @TT @Wd @Wi @Ac6 @Ads @Vd @UG @TF @Tr)) (Bb (BT @UP @UI @UH @TN @Un @Ajf @Ajh @Aj5 @Ajs @Afr @Ai7) (FU @Yr @YY @YR @X8 @Ad2 @RoN @WJ @Agx @Aec @R1 @Tv @Za)) (Bb (BT @Agg @Ah7 @Aid @VJ @TG @U7 @Vv @XC @Ai9 @exZ @exN) (FU @ZO @Ahb @Aby @Ahm @XJ @Abg @Aae @Afu @Ahc @Aib @Ad @PT)) (Bb (BT @JA @Ed @JE @Hr @BL @not_false_eq_true @true_and @and_true @true_or @or_true @and_self) (FU @false_and @and_false @neN @neI @neW @not_true_eq_false @Ic @O9 @TO @Ii @OD @Ut)) (Bb (BT @DQ @Lg @OK @IS @Nq @JS @Gk @Ik @Fw @DZ @Fv) (FU @E4 @Fl @Ff @Em @G8 @Fr @Ea @Fy @E2 @GB @Eg @Fx)) (Bb (BT @Gt @Gg @JZ @GV @IY @Hh @JR @IJ @GW @Lk @Iz) (FU @GT @IZ @Hf @Ma @Hi @J1 @M0 @Lo @Lt @JD @L6 @Je)) (Bb (BT @Mi @Md @IA @O7 @Ly @I6 @L7 @Iv @OT @Jp @LL) (FU @O6 @P3 @Bool.not_true @Bool.not_false @Bool.and_true @Bool.true_and @Bool.or_true @Bool.true_or @Bool.or_false @Bool.false_or @Bool.false_and @Bool.and_false)) (Bb (BT @Bool.false_xor @Bool.xor_false @Bool.true_xor @Bool.xor_true @Bool.not_not @Bool.and_self @Bool.or_self @Int.toNat_natCast @Int.toNat_zero @Nat.add_zero @Nat.zero_add) (FU @Nat.sub_zero @Int.natCast_zero @Nat.mul_zero @Nat.zero_or @Nat.or_zero @Nat.and_zero @Nat.zero_and @Nat.zero_shiftRight @decide_true @decide_false @Ac8 @Aa3)) (Bb (BT @Adm @and_assoc @Ow @P5 @Aci @Abd @Ac9 @Ad7 @Abn @Adb @UU) (FU @Uo @Aco @Abz @Aeu @Ai1 @Ae8 @Aft @Ahp @Ait @Bool.false_eq_true @Bool.true_eq_false @false_implies)) (Bb (BT @true_implies @Ail @Ae7 @Ajv @Ajd @Ajb @Aed @Aem @Zk @Nat.le_refl @Int.le_refl) (FU @fcT @fcF @flN @Ajg @Aj0 @nlz @bTF @bFT @Aij @BQ.eq_1 @BQ.eq_2 @BQ.eq_3)))
variable {M:Seat}
theorem Inv.sim2 {c c':Ctx} {e:Env} {H:Hp} (hI:Inv M c e H) {m z:List Nat} (hm:m.Nodup) (hz:∀ i ∈ z,i ∉ m) {H':Hp} (hH:Br H m z H')
 (hc:(c'=c∧∀ j,j < c.k→m[j]?=some j) ∨ (c'=⟨e.sim H m z,fun b=>∃ id,Af H' id=true∧(e.sim H m z).ρ id=b,m.length⟩∧∀ i ∈ m,e.D i)):Inv M c' (e.sim H m z) H':=by
 have hp:=Pull.of hI m z
 have hblk:∀ j,Af H' j=true→(e.sim H m z).D j∧D8 (e.sim H m z) j (hget H' j)∧¬ (e.sim H m z).im ((e.sim H m z).ρ j)∧(c.O ((e.sim H m z).ρ j) ∨ c.e0.w.heap.size≤(e.sim H m z).ρ j):=by
  intro j hj
  obtain ⟨i,h1,h2,h3⟩:=Cw hH j hj
  obtain ⟨k1,k2,k3,k4⟩:=hI.blk i h2
  have hρ:(e.sim H m z).ρ j=e.ρ i:=by simp [Env.sim,h1]
  refine ⟨⟨i,h1,k1⟩,KJ hp hρ h3 k2,?_,?_⟩
  ·rw [hρ]
   rintro (h | ⟨i',hf,he⟩)
   ·exact k3 h
   ·obtain ⟨f1,f2,_⟩:=Es hf
    have:=hI.inj i i' h2 f2 he
    subst this
    exact hz _ f1 (List.mem_of_getElem? h1)
  ·rw [hρ];exact k4
 have hinj:∀ i j,Af H' i=true→Af H' j=true→(e.sim H m z).ρ i=(e.sim H m z).ρ j→i=j:=by
  intro i j hi hj hij
  obtain ⟨i',h1,h2,_⟩:=Cw hH i hi
  obtain ⟨j',h3,h4,_⟩:=Cw hH j hj
  simp only [Env.sim,h1,h3] at hij
  have:=hI.inj i' j' h2 h4 hij
  subst this
  exact getElem?_nodup hm h1 h3
 have himo:∀ b,(e.sim H m z).im b→c.e0.im b ∨ c.O b ∨ c.e0.w.heap.size≤b:=by
  rintro b (h | ⟨i,hf,rfl⟩)
  ·exact hI.imo b h
  ·exact .inr (hI.blk i (Es hf).2.1).2.2.2
 have himb:∀ b,(e.sim H m z).im b→(∃ cells el fz,(e.sim H m z).w.heap[b]?=some (.cells cells el fz)) ∨ ∃ es ck,(e.sim H m z).w.heap[b]?=some (.map es ck):=by
  rintro b (h | ⟨i,hf,rfl⟩)
  ·exact hI.imb b h
  ·rcases (Bool.or_eq_true _ _).mp hf with hf | hf
   ·obtain ⟨_,cells,el,h1,_⟩:=hp.fz i hf
    exact .inl ⟨cells,el,_,h1⟩
   ·obtain ⟨_,h1⟩:=hp.fm i hf
    obtain ⟨n,ks,vs,hg⟩:=Al3 hf
    rw [hg] at h1
    obtain ⟨es,ck,h2,_⟩:=h1
    exact .inr ⟨es,ck,h2⟩
 have hrb:∀ id,(e.sim H m z).D id→(e.sim H m z).ρ id < (e.sim H m z).w.heap.size:=by
  rintro id ⟨i,h1,h2⟩
  simp only [Env.sim,h1]
  exact hI.rb i h2
 have hgs:GS M (e.sim H m z):=⟨fun g hg =>
  CW hp (show Az H m z (.imm (Sa g)) (.imm (Sa g)) from Qw H m z g) (hI.gs.1 g hg),fun p hp'=>⟨.inl (hI.gs.2 p hp').1,(hI.gs.2 p hp').2⟩⟩
 rcases hc with ⟨rfl,hlow⟩ | ⟨rfl,hall⟩
 ·refine ⟨hI.ev,hblk,hinj,himo,himb,hrb,fun b hb=>.inl (hI.keep b hb),fun id hid=>?_,hgs,hI.φ,hI.τ⟩
  obtain ⟨h1,h2⟩:=hI.low id hid
  exact ⟨⟨id,hlow id hid,h1⟩,by simp only [Env.sim,hlow id hid];exact h2⟩
 ·refine ⟨Ev.refl _ _,fun j hj=>⟨(hblk j hj).1,(hblk j hj).2.1,(hblk j hj).2.2.1,.inl ⟨j,hj,rfl⟩⟩,hinj,fun b hb=>.inl hb,himb,hrb,fun b hb=>hb,fun id hid=>⟨?_,rfl⟩,hgs,hI.φ,hI.τ⟩
  have hid':id < m.length:=hid
  exact ⟨m[id],List.getElem?_eq_getElem hid',hall _ (List.getElem_mem hid')⟩
def Cg (us:List V) (i:Nat):Bool:=us.any fun v=>match v with | .ptr j _=>j == i | .map j=>j == i | .sl j _ _ _ _=>j == i | _=>false
theorem UM {e:Env} {us:List V} {vs:Array Value} (h:HN e us vs) {i:Nat} (hi:Cg us i=true):e.D i:=by
 unfold Cg at hi
 rw [List.any_eq_true] at hi
 obtain ⟨v,hv,hvi⟩:=hi
 obtain ⟨t,ht,rfl⟩:=List.getElem_of_mem hv
 have:=h.2 t
 rw [show us.getD t .junk=us[t] by simp [List.getD,ht]] at this
 generalize us[t]=v at *
 cases v <;> simp only [Bool.false_eq_true,beq_iff_eq] at hvi
 all_goals (subst hvi;simp only [RV,RS,V.isAgg,R] at this;exact this.1)
def EM (i:Nat):V→Bool
 | .ptr j _=>j == i
 | .map j=>j == i
 | .sl j _ _ _ _=>j == i
 | .ifc _ v=>EM i v
 | .st _ fs=>EM i fs
 | .fcons _ v r=>EM i r || EM i v
 | _=>false
theorem Fo {e:Env} {i:Nat}:∀ {v:V} {cs:List Value},R e v cs→EM i v=true→e.D i
 | .ptr j p,cs,h,hi=>by simp only [EM,beq_iff_eq] at hi;subst hi;simp only [R] at h;exact h.1
 | .map j,cs,h,hi=>by simp only [EM,beq_iff_eq] at hi;subst hi;simp only [R] at h;exact h.1
 | .sl j _ _ _ _,cs,h,hi=>by simp only [EM,beq_iff_eq] at hi;subst hi;simp only [R] at h;exact h.1
 | .ifc _ v, cs, h, hi => by
   simp only [R] at h
   obtain ⟨x,_,_,h⟩:=h
   split at h
   ·obtain ⟨c,_,h⟩:=h;exact Fo h hi
   ·exact Fo h hi
 | .st _ fs,cs,h,hi=>by simp only [R] at h;exact Fo h.2.2 hi
 | .fcons _ v r, cs, h, hi => by
   simp only [R] at h
   simp only [EM,Bool.or_eq_true] at hi
   exact hi.elim (Fo h.2.2.2.2) (Fo h.2.2.2.1)
 | .junk,_,_,hi | .int ..,_,_,hi | .bool _,_,_,hi | .str _,_,_,hi | .nilp,_,_,hi | .imm _,_,_,hi | .nils,_,_,hi | .lst ..,_,_,hi | .nilm,_,_,hi | .nilf,_,_,hi | .fn ..,_,_,hi | .nili,_,_,hi | .ar ..,_,_,hi | .fnil,_,_,hi | .tup _,_,_,hi | .mp ..,_,_,hi | .fm ..,_,_,hi=>by simp [EM] at hi
def GJ (l:List Nat) (H:Hp) (i:Nat):Bool:=l.any fun p=>Af H p && (hget H p).solid && EM i (hget H p)
theorem Ad9 {c:Ctx} {e:Env} {l:List Nat} {H:Hp} (hI:Inv M c e H) {i:Nat} (hi:GJ l H i=true):e.D i:=by
 unfold GJ at hi
 rw [List.any_eq_true] at hi
 obtain ⟨p,_,hp⟩:=hi
 simp only [Bool.and_eq_true] at hp
 obtain ⟨_,_,_,_,hR⟩:=hI.cells hp.1.1 hp.1.2
 exact Fo hR hp.2
theorem FV {f:Nat} {us:List V} {H:Hp} {n:Nat} {K:V→Hp→Prop} {us0:List V} {H0:Hp} {k:Nat} {Q:V→Hp→Nat→Prop} (hr:Ag M f us0 H0 k Q) (L:Prop) [Decidable L] (m m0 z:List Nat) (h0:∀ id i,Af H0 id=true→m[id]?=some i→i ∈ m0) (h0m:∀ i ∈ m0,i ∈ m)
 (hm:m.Nodup) (hz:∀ i ∈ z,i ∉ m) (hk:m.length=k) (hall0:∀ i ∈ m0,Af H i=true) (hall:∀ i ∈ m,Af H i=true ∨ Cg us i=true ∨ GJ m0 H i=true) (hus:Bd H m z us0 us) (hH:Br H m z H0)
 (hK:∀ v H' k',Q v H' k'→(k'≤k + 16∧(L→AC v∧QI H'))∧K (v.ren (Bh m n k')) (AV (Bh m n k') H' ++ A6 H (if L then m0 else m0 ++ z))):AR M f us H n K:=by
 intro c e vs hI hD hcn ⟨hvs,hargs⟩
 subst hk
 have hp:=Pull.of hI m z
 have hmD:∀ i ∈ m,e.D i:=fun i hi=>(hall i hi).elim (fun h=>(hI.blk i h).1) (fun h=>h.elim (UM ⟨hvs,hargs⟩) (Ad9 hI))
 have hI2:Inv M ⟨e.sim H m z,fun b=>∃ id,Af H0 id=true∧(e.sim H m z).ρ id=b,m.length⟩ (e.sim H m z) H0:=hI.sim2 hm hz hH (.inr ⟨rfl,hmD⟩)
 have hmn:∀ i ∈ m,i < n:=fun i hi=>Nat.lt_of_not_le (fun h=>hD i h (hmD i hi))
 refine (hr (e.sim H m z) vs hI2 ?_ ⟨hvs.trans (Gf hus).symm,fun t=>Lh hp (Gc hus t) (hargs t)⟩).mono ?_
 ·rintro id hid ⟨i,h1,_⟩
  have:=(List.getElem?_eq_some_iff.1 h1).1
  omega
 rintro en w' ⟨x,v,e2,H',k',rfl,rfl,hI',hv,hD',hkk,hQ⟩
 obtain ⟨⟨hk16,hL⟩,hKK⟩:=hK v H' k' hQ
 have hO:∀ b,(∃ id,Af H0 id=true∧(e.sim H m z).ρ id=b)→∃ i ∈ m0,e.ρ i=b:=by
  rintro b ⟨id,h1,h2⟩
  obtain ⟨i,k1,k2,_⟩:=Cw hH id h1
  exact ⟨i,h0 id i h1 k1,by simpa [Env.sim,k1] using h2⟩
 have hsame:∀ b,b < e.w.heap.size→(∀ i ∈ m0,e.ρ i ≠ b)→e2.w.heap[b]?=e.w.heap[b]?:=fun b hb hn =>
  hI'.ev.frame b hb (fun ho=>by obtain ⟨i,h1,h2⟩:=hO b ho;exact hn i h1 h2)
 have hsize:e.w.heap.size≤e2.w.heap.size:=hI'.ev.size
 let e' : Env := { ρ := fun i => if n ≤ i then e2.ρ (m.length + (i - n)) else e.ρ i
                   D:=fun i=>e.D i ∨ (n≤i∧e2.D (m.length + (i - n)))
                   im:=fun b=>if L then e.im b else e2.im b
                   w:=e2.w,φ:=e2.φ,τ:=e2.τ }
 have hφ:e2.φ=e.φ:=hI'.φ.trans hI.φ.symm
 have hτ:e2.τ=e.τ:=hI'.τ.trans hI.τ.symm
 have him2:∀ b,e.im b→e2.im b:=fun b hb=>hI'.keep b (.inl hb)
 have him':∀ b,e.im b→e'.im b:=fun b hb=>by
  show if L then _ else _
  split
  ·exact hb
  ·exact him2 b hb
 have him2':∀ b,e'.im b→e2.im b:=fun b hb=>by
  have hb:if L then e.im b else e2.im b:=hb
  split at hb
  ·exact him2 b hb
  ·exact hb
 have hρold:∀ i,e.D i→e'.ρ i=e.ρ i:=fun i hi=>by
  show (if n≤i then _ else _)=_
  rw [if_neg (fun h=>hD i h hi)]
 have hle:e.le e':=by
  refine ⟨fun i hi=>⟨.inl hi,hρold i hi⟩,fun b hb=>⟨him' b hb,fun cc el fz hc=>⟨el,fz,?_⟩,fun es ck hc=>?_⟩,hI'.ev.bs,hφ,hτ⟩
  ·show e2.w.heap[b]?=_
   rw [hsame b (hI.imlt b hb) (fun i hi he=>(hI.blk i (hall0 i hi)).2.2.1 (he ▸ hb))]
   exact hc
  ·show e2.w.heap[b]?=_
   rw [hsame b (hI.imlt b hb) (fun i hi he=>(hI.blk i (hall0 i hi)).2.2.1 (he ▸ hb))]
   exact hc
 have hpush:Push L (Bh m n k') e2 e':=by
  refine ⟨fun j hj=>?_,fun hnl b hb=>?_,rfl,rfl,rfl⟩
  ·have hjk:j < k':=Nat.lt_of_not_le (fun h=>hD' j h hj)
   have hg:=Nh (n:=n) hkk j hjk
   by_cases hjm:j < m.length
   ·rw [dif_pos hjm] at hg
    have hmj:=hmD m[j] (List.getElem_mem hjm)
    refine ⟨m[j],hg,.inl hmj,?_⟩
    rw [hρold _ hmj]
    have:=(hI'.low j hjm).2
    rw [this]
    simp [Env.sim,List.getElem?_eq_getElem hjm]
   ·rw [dif_neg hjm] at hg
    have e1:m.length + (n + (j - m.length) - n)=j:=Aa
    refine ⟨_,hg,.inr ⟨by omega,by rw [e1];exact hj⟩,?_⟩
    show (if _ then _ else _)=_
    rw [if_pos Aa,e1]
  ·show if L then _ else _
   rw [if_neg hnl];exact hb
 have hnd:(Bh m n k').Nodup:=JY hm hmn
 have hnew:∀ b,(∃ id,Af H0 id=true∧(e.sim H m z).ρ id=b) ∨ (e.sim H m z).w.heap.size≤b→c.O b ∨ c.e0.w.heap.size≤b:=by
  rintro b (h | h)
  ·obtain ⟨i,h1,rfl⟩:=hO b h
   exact (hI.blk i (hall0 i h1)).2.2.2
  ·have h:e.w.heap.size≤b:=h
   have:=hI.ev.size
   exact .inr Aa
 have hold:∀ id,Af (A6 H (if L then m0 else m0 ++ z)) id=true→Af H id=true∧id ∉ m0∧(¬ L→id ∉ z)∧hget (A6 H (if L then m0 else m0 ++ z)) id=hget H id:=by
  intro id hid
  rw [FQ] at hid
  simp only [Ww,List.contains_eq_mem,decide_eq_false_iff_not] at hid
  refine ⟨hid.1,?_,?_,FJ _ _ _ hid.2⟩
  ·intro h';apply hid.2;split
   ·exact h'
   ·exact List.mem_append_left _ h'
  ·intro hnl h';apply hid.2;rw [if_neg hnl];exact List.mem_append_right _ h'
 have hrenb:∀ id,Af (AV (Bh m n k') H') id=true→∃ j,Af H' j=true∧e'.D id∧e'.ρ id=e2.ρ j∧(Bh m n k')[j]?=some id∧hget (AV (Bh m n k') H') id=(hget H' j).ren (Bh m n k'):=by
  intro id hid
  obtain ⟨j,h1,h2,h3⟩:=GE hnd hid
  obtain ⟨i,k1,k2,k3⟩:=hpush.D j (hI'.blk j h2).1
  rw [h1] at k1
  simp only [Option.some.injEq] at k1
  subst k1
  exact ⟨j,h2,k2,k3,h1,h3⟩
 refine ⟨x,v.ren (Bh m n k'),e',AV (Bh m n k') H' ++ A6 H (if L then m0 else m0 ++ z),rfl,rfl,hle,?_,Ql hpush (fun hl=>(hL hl).1) hv,?_,hKK⟩
 ·have hblk:∀ id,Af (AV (Bh m n k') H' ++ A6 H (if L then m0 else m0 ++ z)) id=true→(Af (AV (Bh m n k') H') id=true∧hget (AV (Bh m n k') H' ++ A6 H (if L then m0 else m0 ++ z)) id=hget (AV (Bh m n k') H') id) ∨ (Af (A6 H (if L then m0 else m0 ++ z)) id=true∧hget (AV (Bh m n k') H' ++ A6 H (if L then m0 else m0 ++ z)) id=hget (A6 H (if L then m0 else m0 ++ z)) id):=by
   intro id hid
   rw [Ba] at hid
   cases hr':Af (AV (Bh m n k') H') id with
   | true=>exact .inl ⟨rfl,Cn hr'⟩
   | false=>rw [hr',Bool.false_or] at hid;exact .inr ⟨hid,AN hr'⟩
  have hsep:∀ i j,Af H i=true→i ∉ m0→Af H' j=true→e.ρ i ≠ e2.ρ j:=by
   intro i j hi him hj he
   rcases (hI'.blk j hj).2.2.2 with h | h
   ·obtain ⟨i',h1,h2⟩:=hO _ h
    exact him (by rw [hI.inj i i' hi (hall0 i' h1) (he.trans h2.symm)];exact h1)
   ·have h:e.w.heap.size≤e2.ρ j:=h
    have:=hI.rb i (hI.blk i hi).1
    omega
  refine ⟨?_,?_,?_,?_,?_,?_,fun b hb=>him' b (hI.keep b hb),?_,hI.gs.mono hle,hI'.φ,hI'.τ⟩
  ·exact hI.ev.trans hI'.ev (fun b hb=>by
    obtain ⟨i,h1,rfl⟩:=hO b hb
    rcases (hI.blk i (hall0 i h1)).2.2.2 with h | h
    ·exact .inl h
    ·exact .inr h)
  ·intro id hid
   rcases hblk id hid with ⟨h1,h2⟩ | ⟨h1,h2⟩
   ·obtain ⟨j,k1,k2,k3,k4,k5⟩:=hrenb id h1
    obtain ⟨q1,q2,q3,q4⟩:=hI'.blk j k1
    rw [h2,k5,k3]
    exact ⟨k2,Jo hpush k3 (fun hl=>(hL hl).2 j k1) q2,fun h=>q3 (him2' _ h),hnew _ q4⟩
   ·obtain ⟨k1,k2,k3,k4⟩:=hold id h1
    obtain ⟨q1,q2,q3,q4⟩:=hI.blk id k1
    have hne:∀ i ∈ m0,e.ρ i ≠ e.ρ id:=fun i hi he=>k2 (by rw [← hI.inj i id (hall0 i hi) k1 he];exact hi)
    rw [h2,k4,hρold id q1]
    refine ⟨.inl q1,BA hle q1 (hsame _ (hI.rb id q1) hne) q2,?_,q4⟩
    intro h
    have h:if L then e.im (e.ρ id) else e2.im (e.ρ id):=h
    split at h
    ·exact q3 h
    ·rename_i hnl
     rcases hI'.imo _ h with h | h | h
     ·rcases h with h | ⟨i,hf,he⟩
      ·exact q3 h
      ·obtain ⟨f1,f2,_⟩:=Es hf
       rw [hI.inj id i k1 f2 he] at k3
       exact k3 hnl f1
     ·obtain ⟨i,h1,h2⟩:=hO _ h
      exact hne i h1 h2
     ·have h:e.w.heap.size≤e.ρ id:=h
      have:=hI.rb id q1
      omega
  ·intro i j hi hj hij
   rcases hblk i hi with ⟨h1,_⟩ | ⟨h1,_⟩ <;> rcases hblk j hj with ⟨h2,_⟩ | ⟨h2,_⟩
   ·obtain ⟨a,a1,_,a3,a4,_⟩:=hrenb i h1
    obtain ⟨b,b1,_,b3,b4,_⟩:=hrenb j h2
    rw [a3,b3] at hij
    have:=hI'.inj a b a1 b1 hij
    subst this
    rw [a4] at b4
    simpa using b4
   ·obtain ⟨a,a1,_,a3,_⟩:=hrenb i h1
    obtain ⟨b1,b2,_⟩:=hold j h2
    rw [a3,hρold j (hI.blk j b1).1] at hij
    exact absurd hij.symm (hsep j a b1 b2 a1)
   ·obtain ⟨a,a1,_,a3,_⟩:=hrenb j h2
    obtain ⟨b1,b2,_⟩:=hold i h1
    rw [a3,hρold i (hI.blk i b1).1] at hij
    exact absurd hij (hsep i a b1 b2 a1)
   ·obtain ⟨b1,_⟩:=hold i h1
    obtain ⟨b2,_⟩:=hold j h2
    rw [hρold i (hI.blk i b1).1,hρold j (hI.blk j b2).1] at hij
    exact hI.inj i j b1 b2 hij
  ·intro b hb
   have hb:if L then e.im b else e2.im b:=hb
   split at hb
   ·exact hI.imo b hb
   ·rcases hI'.imo b hb with h | h | h
    ·rcases h with h | ⟨i,hf,rfl⟩
     ·exact hI.imo b h
     ·exact .inr (hI.blk i (Es hf).2.1).2.2.2
    ·exact .inr (hnew b (.inl h))
    ·exact .inr (hnew b (.inr h))
  ·intro b hb
   exact hI'.imb b (him2' b hb)
  ·intro id hid
   rcases hid with hid | ⟨h1,h2⟩
   ·rw [hρold id hid]
    have:=hI.rb id hid
    show e.ρ id < e2.w.heap.size
    omega
   ·show (if n≤id then _ else _) < _
    rw [if_pos h1]
    exact hI'.rb _ h2
  ·intro id hid
   obtain ⟨h1,h2⟩:=hI.low id hid
   exact ⟨.inl h1,(hρold id h1).trans h2⟩
 ·rintro id (h | ⟨h1,h2⟩)
  ·exact .inl h
  ·refine .inr ⟨h1,?_⟩
   have:=Nat.lt_of_not_le (fun h=>hD' _ h h2)
   omega
theorem Ok {f:Nat} {us:List V} {H:Hp} {n:Nat} {K:V→Hp→Prop} {us0:List V} {H0:Hp} {k:Nat} {Q:V→Hp→Nat→Prop} (hr:Ag M f us0 H0 k Q) (L:Prop) [Decidable L] (m m0 z:List Nat) (h0:∀ id i,Af H0 id=true→m[id]?=some i→i ∈ m0) (h0m:∀ i ∈ m0,i ∈ m)
 (hm:m.Nodup) (hz:∀ i ∈ z,i ∉ m) (hk:m.length=k) (hall0:∀ i ∈ m0,Af H i=true) (hall:∀ i ∈ m,Af H i=true ∨ Cg us i=true) (hus:Bd H m z us0 us) (hH:Br H m z H0)
 (hK:∀ v H' k',Q v H' k'→(k'≤k + 16∧(L→AC v∧QI H'))∧K (v.ren (Bh m n k')) (AV (Bh m n k') H' ++ A6 H (if L then m0 else m0 ++ z))):AR M f us H n K :=
 FV hr L m m0 z h0 h0m hm hz hk hall0 (fun i hi=>(hall i hi).imp_right .inl) hus hH hK
end Mv
