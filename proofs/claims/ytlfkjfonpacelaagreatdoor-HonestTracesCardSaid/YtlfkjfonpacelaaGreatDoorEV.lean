/- A part. -/
import Derived.Test.YtlfkjfonpacelaaGreatDoorEU
set_option linter.all false
set_option maxRecDepth 20000
set_option maxHeartbeats 4000000
namespace Mv
open Go
def Cz (rs:List (BitVec 64)):V:=.lst 1 rs.length (ws rs)
def Alj (f g:Nat→BitVec 64) (pc:BitVec 64) (hl:Bool) (xt:BitVec 64) (m:Nat):Hp :=
 [(m,mach f g pc hl xt),(m + 1,Aj0 (m + 2) (m + 3) pc hl xt),(m + 2,.ar 1 8192 (fun j=>W (f j))),(m + 3,.ar 1 16 (fun j=>W (g j)))]
theorem As (m:List Nat) (f g:Nat→BitVec 64) (pc:BitVec 64) (hl:Bool) (xt:BitVec 64):(mach f g pc hl xt).ren m=mach f g pc hl xt:=rfl
theorem Q9 (f g:Nat→BitVec 64) (pc:BitVec 64) (hl:Bool) (xt:BitVec 64):(mach f g pc hl xt).solid=true:=rfl
theorem AA (H:Hp) (m z:List Nat) (f g:Nat→BitVec 64) (pc:BitVec 64) (hl:Bool) (xt:BitVec 64):Ar H m z (mach f g pc hl xt) (mach f g pc hl xt):=by
 simp only [mach,B2,seval]
def pth (f:Nat→BitVec 64) (i:Nat):List Dg:=(List.range 13).map (fun h=>BP f h ((i / 2 ^ h) ^^^ 1))
def Ig (f:Nat→BitVec 64) (i:Nat) (v:BitVec 64) (j:Nat):BitVec 64:=if j=i then v else f j
def Q5:=(Bc @Pk @Ig.eq_1)
theorem QO {M:Seat} {f:Nat} {us us0:List V} {H:Hp} {n:Nat} {K:V→Hp→Prop} {v:V} (z:List Nat) (hr:Af M f us0 [] 0 (Q3 v [] 0)) (hus:Bh H [] z us0 us) (hv:v.ren (Bp [] n 0)=v) (hn:A7 v) (hK:K v H):AT M f us H n K:=by
 refine Cj hr True [] z List.nodup_nil B1 rfl B1 hus trivial ?_
 rintro v' H' k' ⟨rfl,rfl,rfl⟩
 refine ⟨⟨by omega,fun _=>⟨hn,fun id h=>by simp [Ac] at h⟩⟩,?_⟩
 rw [hv]
 simpa [AM,A5] using hK
theorem Ah1 (c:Bool):AI c .ptr .nilp .nilp=True:=rfl
theorem Aey:AL .ptr .nilp .nilp=true:=rfl
theorem Ah6 (c:Bool) (ts:List Nat) (t:Nat) (v:V):AI c (.iface ts) .nili (.ifc t v)=True:=by cases v <;> simp [AI]
theorem Afo (ts:List Nat) (t:Nat) (v:V):AL (.iface ts) .nili (.ifc t v)=false:=by cases v <;> rfl
theorem Anh (c a b:Bool):AI c .bool (.bool a) (.bool b)=True:=rfl
theorem Ald (a b:Bool):AL .bool (.bool a) (.bool b)=(a == b):=by cases a <;> cases b <;> rfl
theorem Amt (c:Bool) (k:IntKind) (a b:Int):AI c .int (.int k a) (.int k b)=True:=by simp [AI]
theorem Ale (k k':IntKind) (a b:Int):AL .int (.int k a) (.int k' b)=decide (a=b):=rfl
theorem Ann (c:Bool) (a b:Int):AI c (.iface [74]) (.ifc 74 (.int .i64 a)) (.ifc 74 (.int .i64 b))=True:=by simp [AI]
theorem Ala (ts:List Nat) (t:Nat) (a b:Int):AL (.iface ts) (.ifc t (.int .i64 a)) (.ifc t (.int .i64 b))=decide (a=b):=by simp [AL]
theorem Ami (a b:Prop):(bif true then a else b)=a:=rfl
theorem Aox (a b:Prop):(bif false then a else b)=b:=rfl
theorem Apf (f:X→V) (a:X) (l:List X):(a :: l).map f=f a :: l.map f:=rfl
theorem Apz (f:X→V):([]:List X).map f=[]:=rfl
theorem Apn {a b:Bool}:(bif true then a else b)=a:=rfl
theorem Aow (f:X→V):(none:Option X).map f=none:=rfl
theorem Aoa (f:X→V) (a:X):(some a).map f=some (f a):=rfl
theorem Adp (a:V) (l m:List V):a :: l ++ m=a :: (l ++ m):=rfl
theorem fcT (a b:List (Nat × Hp)):(bif true then a else b)=a:=rfl
theorem fcF (a b:List (Nat × Hp)):(bif false then a else b)=b:=rfl
theorem flN (f:Nat × Nat × V→Bool):([]:List (Nat × Nat × V)).filter f=[]:=rfl
theorem Aqc (a:LOp) (l:List LOp):(a :: l).length=l.length + 1:=rfl
theorem neN (a b:Nat):(a ≠ b) = ¬ (a=b):=rfl
theorem neI (a b:Int):(a ≠ b) = ¬ (a=b):=rfl
theorem neW (a b:BitVec 64):(a ≠ b) = ¬ (a=b):=rfl
theorem nlz (n:Nat):(n < 0)=False:=B1
theorem bTF:(true == false)=false:=rfl
theorem bFT:(false == true)=false:=rfl
theorem Apl:([]:List LOp).length=0:=rfl
def LG:=(EL (Bc (ET @Am0 @Wj @Abv @Acb @VW @X5 @YU @Aff @Ac9 @Ai9 @Ah3) (ET @Vl @Acw @U3 @Aci @Abn @Z7 @Yf @YL @UM @Abe @Aaq)) (Bc (ET @Ab0 @Aac @Yk @Acl @Adh @W3 @Aar @Yi @ZV @Xk @WP) (Fw @Ahm @Acn @Ag6 @ZD @Acx @Afi @Aa0 @Acy @Aii @Zt @Al1 @An3)) (Bc (ET @Am3 @Ag5 @Ae8 @Agr @Ail @X2 @Xv @T9 @Abw @Aa9 @Abu) (Fw @Wa @Ae9 @Aeu @Ac5 @XL @Ahr @Acv @Aiw @Afh @Agh @Y9 @Ab8)) (Bc (ET @Adi @XO @Adk @Zp @Ait @Z8 @W5 @R6 @Ago @Aif @Z9) (Fw @Abq @Afx @Acm @Aby @Ag7 @Abd @ZO @Ab2 @Vn @VD @Qa @TZ)) (Bc (ET @Ac6 @VK @Aaj @Aft @Aea @Acc @ZE @Aa4 @Yy @Tb @YJ) (Fw @Uv @LA @Aam @X4 @Abj @Z6 @Adl @Aag @Afe @Aeg @Agw @Ah0)) (Bc (ET @Age @Afw @Agk @Ahq @Ahg @Aiv @Ais @Ahd @Js @Adb @Aev) (Fw @Aih @ZL @Ai0 @Ajl @Aep @Aer @ZM @Akx @ZF @Ae3 @NB @MI)) (Bc (ET @KU @Hr @Hz @GZ @GN @KG @K5 @N5 @MR @Wm @Y0) (Fw @Yg @X7 @Xq @Y8 @VN @WI @Afg @Ajh @Wx @YT @VQ @XD)) (Bc (ET @YG @V5 @Wf @Xs @YM @Ap1 @Ap3 @Apb @Ao9 @Aki @Apg) (Fw @Aaw @Zv @Zx @Z1 @Ai2 @RoN @Aat @Alw @Ajq @TC @YE @Abp)) (Bc (ET @Alz @All @Alg @YO @WC @Yx @Xr @ZH @Aqf @exZ @exN) (Fw @Ai6 @Alu @Aib @Amw @ZY @Afk @Af9 @Amq @Aly @Alr @Ad @QF)) (Bc (ET @Ki @Fe @JC @Ib @Cq @not_false_eq_true @true_and @and_true @true_or @or_true @and_self) (Fw @false_and @and_false @neN @neI @neW @not_true_eq_false @J3 @Rn @YS @Jw @QB @Wg)) (Bc (ET @Dk @ML @Rp @JN @M9 @Km @Hq @Jy @FZ @Fr @Gk) (Fw @Fh @Gp @Gl @Fn @Hx @Gi @Fl @FY @Fv @HH @EY @Gj)) (Bc (ET @Hv @HB @Kl @Ic @JD @HY @Kb @JV @HZ @NV @KL) (Fw @Ih @Kk @Iu @Nu @Ie @K8 @NJ @MU @Nw @KM @MJ @KW)) (Bc (ET @NH @Nn @JZ @Sv @NL @K6 @NM @JJ @Q1 @KN @MW) (Fw @Sj @Q6 @Bool.not_true @Bool.not_false @Bool.and_true @Bool.true_and @Bool.or_true @Bool.true_or @Bool.or_false @Bool.false_or @Bool.false_and @Bool.and_false)) (Bc (ET @Bool.false_xor @Bool.xor_false @Bool.true_xor @Bool.xor_true @Bool.not_not @Bool.and_self @Bool.or_self @Int.toNat_natCast @Int.toNat_zero @Nat.add_zero @Nat.zero_add) (Fw @Nat.sub_zero @Int.natCast_zero @Nat.mul_zero @Nat.zero_or @Nat.or_zero @Nat.and_zero @Nat.zero_and @Nat.zero_shiftRight @decide_true @decide_false @Ahu @Aha)) (Bc (ET @Ajc @and_assoc @Agl @Ah4 @Ahl @Agu @Ah6 @Afo @Aht @Aei @Ys) (Fw @Yc @Ah1 @Aey @Anh @Ald @Amt @Ale @Ann @Ala @Bool.false_eq_true @Bool.true_eq_false @false_implies)) (Bc (ET @true_implies @Ami @Aox @Apf @Apz @Apn @Aow @Aoa @Adp @Nat.le_refl @Int.le_refl) (Fw @fcT @fcF @flN @Aqc @Apl @nlz @bTF @bFT @Akc @Cw.eq_1 @Cw.eq_2 @Cw.eq_3)))
variable {M:Seat}
theorem Inv.sim2 {c c':Ctx} {e:Env} {H:Hp} (hI:Inv M c e H) {m z:List Nat} (hm:m.Nodup) (hz:∀ i ∈ z,i ∉ m) {H':Hp} (hH:Bq H m z H')
 (hc:(c'=c∧∀ j,j < c.k→m[j]?=some j) ∨ (c'=⟨e.sim H m z,fun b=>∃ id,Ac H' id=true∧(e.sim H m z).ρ id=b,m.length⟩∧∀ i ∈ m,e.D i)):Inv M c' (e.sim H m z) H':=by
 have hp:=Pull.of hI m z
 have hblk:∀ j,Ac H' j=true→(e.sim H m z).D j∧DE (e.sim H m z) j (hget H' j)∧¬ (e.sim H m z).im ((e.sim H m z).ρ j)∧(c.O ((e.sim H m z).ρ j) ∨ c.e0.w.heap.size≤(e.sim H m z).ρ j):=by
  intro j hj
  obtain ⟨i,h1,h2,h3⟩:=Dn hH j hj
  obtain ⟨k1,k2,k3,k4⟩:=hI.blk i h2
  have hρ:(e.sim H m z).ρ j=e.ρ i:=by simp [Env.sim,h1]
  refine ⟨⟨i,h1,k1⟩,LQ hp hρ h3 k2,?_,?_⟩
  ·rw [hρ]
   rintro (h | ⟨i',hf,he⟩)
   ·exact k3 h
   ·obtain ⟨f1,f2,_⟩:=ER hf
    have:=hI.inj i i' h2 f2 he
    subst this
    exact hz _ f1 (List.mem_of_getElem? h1)
  ·rw [hρ];exact k4
 have hinj:∀ i j,Ac H' i=true→Ac H' j=true→(e.sim H m z).ρ i=(e.sim H m z).ρ j→i=j:=by
  intro i j hi hj hij
  obtain ⟨i',h1,h2,_⟩:=Dn hH i hi
  obtain ⟨j',h3,h4,_⟩:=Dn hH j hj
  simp only [Env.sim,h1,h3] at hij
  have:=hI.inj i' j' h2 h4 hij
  subst this
  exact getElem?_nodup hm h1 h3
 have himo:∀ b,(e.sim H m z).im b→c.e0.im b ∨ c.O b ∨ c.e0.w.heap.size≤b:=by
  rintro b (h | ⟨i,hf,rfl⟩)
  ·exact hI.imo b h
  ·exact .inr (hI.blk i (ER hf).2.1).2.2.2
 have himb:∀ b,(e.sim H m z).im b→(∃ cells el fz,(e.sim H m z).w.heap[b]?=some (.cells cells el fz)) ∨ ∃ es ck,(e.sim H m z).w.heap[b]?=some (.map es ck):=by
  rintro b (h | ⟨i,hf,rfl⟩)
  ·exact hI.imb b h
  ·rcases (Bool.or_eq_true _ _).mp hf with hf | hf
   ·obtain ⟨_,cells,el,h1,_⟩:=hp.fz i hf
    exact .inl ⟨cells,el,_,h1⟩
   ·obtain ⟨_,h1⟩:=hp.fm i hf
    obtain ⟨n,ks,vs,hg⟩:=Tp hf
    rw [hg] at h1
    obtain ⟨es,ck,h2,_⟩:=h1
    exact .inr ⟨es,ck,h2⟩
 have hrb:∀ id,(e.sim H m z).D id→(e.sim H m z).ρ id < (e.sim H m z).w.heap.size:=by
  rintro id ⟨i,h1,h2⟩
  simp only [Env.sim,h1]
  exact hI.rb i h2
 have hgs:GS M (e.sim H m z):=⟨fun g hg =>
  C6 hp (show Ar H m z (.imm (U1 g)) (.imm (U1 g)) from S1 H m z g) (hI.gs.1 g hg),fun p hp'=>⟨.inl (hI.gs.2 p hp').1,(hI.gs.2 p hp').2⟩⟩
 rcases hc with ⟨rfl,hlow⟩ | ⟨rfl,hall⟩
 ·refine ⟨hI.ev,hblk,hinj,himo,himb,hrb,fun b hb=>.inl (hI.keep b hb),fun id hid=>?_,hgs,hI.φ,hI.τ⟩
  obtain ⟨h1,h2⟩:=hI.low id hid
  exact ⟨⟨id,hlow id hid,h1⟩,by simp only [Env.sim,hlow id hid];exact h2⟩
 ·refine ⟨Ev.refl _ _,fun j hj=>⟨(hblk j hj).1,(hblk j hj).2.1,(hblk j hj).2.2.1,.inl ⟨j,hj,rfl⟩⟩,hinj,fun b hb=>.inl hb,himb,hrb,fun b hb=>hb,fun id hid=>⟨?_,rfl⟩,hgs,hI.φ,hI.τ⟩
  have hid':id < m.length:=hid
  exact ⟨m[id],List.getElem?_eq_getElem hid',hall _ (List.getElem_mem hid')⟩
def Ec (i:Nat):V→Bool
 | .ptr j _=>j == i
 | .map j=>j == i
 | .sl j _ _ _ _=>j == i
 | .ifc _ v=>Ec i v
 | .imm v=>Ec i v
 | .st _ fs=>Ec i fs
 | .fcons _ v r=>Ec i r || Ec i v
 | _=>false
theorem Es {e:Env} {i:Nat}:∀ {v:V} {cs:List Value},R e v cs→Ec i v=true→e.D i
 | .ptr j p,cs,h,hi=>by simp only [Ec,beq_iff_eq] at hi;subst hi;simp only [R] at h;exact h.1
 | .map j,cs,h,hi=>by simp only [Ec,beq_iff_eq] at hi;subst hi;simp only [R] at h;exact h.1
 | .sl j _ _ _ _,cs,h,hi=>by simp only [Ec,beq_iff_eq] at hi;subst hi;simp only [R] at h;exact h.1
 | .ifc _ v, cs, h, hi => by
   simp only [R] at h
   obtain ⟨x,_,_,h⟩:=h
   split at h
   ·obtain ⟨c,_,h⟩:=h;exact Es h hi
   ·exact Es h hi
 | .imm v, cs, h, hi => by
   simp only [R] at h
   obtain ⟨_,_,_,_,_,_,_,_,_,h⟩:=h
   exact Es h hi
 | .st _ fs,cs,h,hi=>by simp only [R] at h;exact Es h.2.2 hi
 | .fcons _ v r, cs, h, hi => by
   simp only [R] at h
   simp only [Ec,Bool.or_eq_true] at hi
   exact hi.elim (Es h.2.2.2.2) (Es h.2.2.2.1)
 | .junk,_,_,hi | .int ..,_,_,hi | .bool _,_,_,hi | .str _,_,_,hi | .nilp,_,_,hi | .nils,_,_,hi | .lst ..,_,_,hi | .nilm,_,_,hi | .nilf,_,_,hi | .fn ..,_,_,hi | .nili,_,_,hi | .ar ..,_,_,hi | .fnil,_,_,hi | .tup _,_,_,hi | .mp ..,_,_,hi | .fm ..,_,_,hi=>by simp [Ec] at hi
def CL (us:List V) (i:Nat):Bool:=us.any fun v=>match v with | .ptr j _=>j == i | .map j=>j == i | .sl j _ _ _ _=>j == i | .imm w=>Ec i w | _=>false
theorem Xg {e:Env} {us:List V} {vs:Array Value} (h:Pp e us vs) {i:Nat} (hi:CL us i=true):e.D i:=by
 unfold CL at hi
 rw [List.any_eq_true] at hi
 obtain ⟨v,hv,hvi⟩:=hi
 obtain ⟨t,ht,rfl⟩:=List.getElem_of_mem hv
 have:=h.2 t
 rw [show us.getD t .junk=us[t] by simp [List.getD,ht]] at this
 generalize us[t]=v at *
 cases v <;> simp only [Bool.false_eq_true,beq_iff_eq] at hvi
 case imm w =>
  simp only [RV,RS,V.isAgg,R] at this
  obtain ⟨_,_,_,_,_,_,_,_,_,h⟩:=this
  exact Es h hvi
 all_goals (subst hvi;simp only [RV,RS,V.isAgg,R] at this;exact this.1)
def Gu (l:List Nat) (H:Hp) (i:Nat):Bool:=l.any fun p=>Ac H p && (hget H p).solid && Ec i (hget H p)
theorem Aew {c:Ctx} {e:Env} {l:List Nat} {H:Hp} (hI:Inv M c e H) {i:Nat} (hi:Gu l H i=true):e.D i:=by
 unfold Gu at hi
 rw [List.any_eq_true] at hi
 obtain ⟨p,_,hp⟩:=hi
 simp only [Bool.and_eq_true] at hp
 obtain ⟨_,_,_,_,hR⟩:=hI.cells hp.1.1 hp.1.2
 exact Es hR hp.2
theorem GV {f:Nat} {us:List V} {H:Hp} {n:Nat} {K:V→Hp→Prop} {us0:List V} {H0:Hp} {k:Nat} {Q:V→Hp→Nat→Prop} (hr:Af M f us0 H0 k Q) (L:Prop) [Decidable L] (m m0 z:List Nat) (h0:∀ id i,Ac H0 id=true→m[id]?=some i→i ∈ m0) (h0m:∀ i ∈ m0,i ∈ m)
 (hm:m.Nodup) (hz:∀ i ∈ z,i ∉ m) (hk:m.length=k) (hall0:∀ i ∈ m0,Ac H i=true) (hall:∀ i ∈ m,Ac H i=true ∨ CL us i=true ∨ Gu m0 H i=true) (hus:Bh H m z us0 us) (hH:Bq H m z H0)
 (hK:∀ v H' k',Q v H' k'→(k'≤k + 16∧(L→A7 v∧SL H'))∧K (v.ren (Bp m n k')) (AM (Bp m n k') H' ++ A5 H (if L then m0 else m0 ++ z))):AT M f us H n K:=by
 intro c e vs hI hD hcn ⟨hvs,hargs⟩
 subst hk
 have hp:=Pull.of hI m z
 have hmD:∀ i ∈ m,e.D i:=fun i hi=>(hall i hi).elim (fun h=>(hI.blk i h).1) (fun h=>h.elim (Xg ⟨hvs,hargs⟩) (Aew hI))
 have hI2:Inv M ⟨e.sim H m z,fun b=>∃ id,Ac H0 id=true∧(e.sim H m z).ρ id=b,m.length⟩ (e.sim H m z) H0:=hI.sim2 hm hz hH (.inr ⟨rfl,hmD⟩)
 have hmn:∀ i ∈ m,i < n:=fun i hi=>Nat.lt_of_not_le (fun h=>hD i h (hmD i hi))
 refine (hr (e.sim H m z) vs hI2 ?_ ⟨hvs.trans (Ho hus).symm,fun t=>NO hp (HO hus t) (hargs t)⟩).mono ?_
 ·rintro id hid ⟨i,h1,_⟩
  have:=(List.getElem?_eq_some_iff.1 h1).1
  omega
 rintro en w' ⟨x,v,e2,H',k',rfl,rfl,hI',hv,hD',hkk,hQ⟩
 obtain ⟨⟨hk16,hL⟩,hKK⟩:=hK v H' k' hQ
 have hO:∀ b,(∃ id,Ac H0 id=true∧(e.sim H m z).ρ id=b)→∃ i ∈ m0,e.ρ i=b:=by
  rintro b ⟨id,h1,h2⟩
  obtain ⟨i,k1,k2,_⟩:=Dn hH id h1
  exact ⟨i,h0 id i h1 k1,by simpa [Env.sim,k1] using h2⟩
 have hsame:∀ b,b < e.w.heap.size→(∀ i ∈ m0,e.ρ i ≠ b)→e2.w.heap[b]?=e.w.heap[b]?:=fun b hb hn =>
  hI'.ev.frame b hb (fun ho=>by obtain ⟨i,h1,h2⟩:=hO b ho;exact hn i h1 h2)
 have hsize:e.w.heap.size≤e2.w.heap.size:=hI'.ev.size
 let e' : Env := { ρ := fun i => if n ≤ i then e2.ρ (m.length + (i - n)) else e.ρ i
                   D:=fun i=>e.D i ∨ (n≤i∧e2.D (m.length + (i - n)))
                   im:=fun b=>if L then e.im b else e2.im b
                   w:=e2.w,φ:=e2.φ,τ:=e2.τ }
 have hφ:e2.φ=e.φ:=hI'.φ.trans hI.φ.symm
 have hτ:e2.τ=e.τ:=hI'.τ.trans hI.τ.symm
 have him2:∀ b,e.im b→e2.im b:=fun b hb=>hI'.keep b (.inl hb)
 have him':∀ b,e.im b→e'.im b:=fun b hb=>by
  show if L then _ else _
  split
  ·exact hb
  ·exact him2 b hb
 have him2':∀ b,e'.im b→e2.im b:=fun b hb=>by
  have hb:if L then e.im b else e2.im b:=hb
  split at hb
  ·exact him2 b hb
  ·exact hb
 have hρold:∀ i,e.D i→e'.ρ i=e.ρ i:=fun i hi=>by
  show (if n≤i then _ else _)=_
  rw [if_neg (fun h=>hD i h hi)]
 have hle:e.le e':=by
  refine ⟨fun i hi=>⟨.inl hi,hρold i hi⟩,fun b hb=>⟨him' b hb,fun cc el fz hc=>⟨el,fz,?_⟩,fun es ck hc=>?_⟩,hI'.ev.bs,hφ,hτ⟩
  ·show e2.w.heap[b]?=_
   rw [hsame b (hI.imlt b hb) (fun i hi he=>(hI.blk i (hall0 i hi)).2.2.1 (he ▸ hb))]
   exact hc
  ·show e2.w.heap[b]?=_
   rw [hsame b (hI.imlt b hb) (fun i hi he=>(hI.blk i (hall0 i hi)).2.2.1 (he ▸ hb))]
   exact hc
 have hpush:Push L (Bp m n k') e2 e':=by
  refine ⟨fun j hj=>?_,fun hnl b hb=>?_,rfl,rfl,rfl⟩
  ·have hjk:j < k':=Nat.lt_of_not_le (fun h=>hD' j h hj)
   have hg:=Ox (n:=n) hkk j hjk
   by_cases hjm:j < m.length
   ·rw [dif_pos hjm] at hg
    have hmj:=hmD m[j] (List.getElem_mem hjm)
    refine ⟨m[j],hg,.inl hmj,?_⟩
    rw [hρold _ hmj]
    have:=(hI'.low j hjm).2
    rw [this]
    simp [Env.sim,List.getElem?_eq_getElem hjm]
   ·rw [dif_neg hjm] at hg
    have e1:m.length + (n + (j - m.length) - n)=j:=Aa
    refine ⟨_,hg,.inr ⟨by omega,by rw [e1];exact hj⟩,?_⟩
    show (if _ then _ else _)=_
    rw [if_pos Aa,e1]
  ·show if L then _ else _
   rw [if_neg hnl];exact hb
 have hnd:(Bp m n k').Nodup:=KI hm hmn
 have hnew:∀ b,(∃ id,Ac H0 id=true∧(e.sim H m z).ρ id=b) ∨ (e.sim H m z).w.heap.size≤b→c.O b ∨ c.e0.w.heap.size≤b:=by
  rintro b (h | h)
  ·obtain ⟨i,h1,rfl⟩:=hO b h
   exact (hI.blk i (hall0 i h1)).2.2.2
  ·have h:e.w.heap.size≤b:=h
   have:=hI.ev.size
   exact .inr Aa
 have hold:∀ id,Ac (A5 H (if L then m0 else m0 ++ z)) id=true→Ac H id=true∧id ∉ m0∧(¬ L→id ∉ z)∧hget (A5 H (if L then m0 else m0 ++ z)) id=hget H id:=by
  intro id hid
  rw [GE] at hid
  simp only [Zl,List.contains_eq_mem,decide_eq_false_iff_not] at hid
  refine ⟨hid.1,?_,?_,Hb _ _ _ hid.2⟩
  ·intro h';apply hid.2;split
   ·exact h'
   ·exact List.mem_append_left _ h'
  ·intro hnl h';apply hid.2;rw [if_neg hnl];exact List.mem_append_right _ h'
 have hrenb:∀ id,Ac (AM (Bp m n k') H') id=true→∃ j,Ac H' j=true∧e'.D id∧e'.ρ id=e2.ρ j∧(Bp m n k')[j]?=some id∧hget (AM (Bp m n k') H') id=(hget H' j).ren (Bp m n k'):=by
  intro id hid
  obtain ⟨j,h1,h2,h3⟩:=Hm hnd hid
  obtain ⟨i,k1,k2,k3⟩:=hpush.D j (hI'.blk j h2).1
  rw [h1] at k1
  simp only [Option.some.injEq] at k1
  subst k1
  exact ⟨j,h2,k2,k3,h1,h3⟩
 refine ⟨x,v.ren (Bp m n k'),e',AM (Bp m n k') H' ++ A5 H (if L then m0 else m0 ++ z),rfl,rfl,hle,?_,T2 hpush (fun hl=>(hL hl).1) hv,?_,hKK⟩
 ·have hblk:∀ id,Ac (AM (Bp m n k') H' ++ A5 H (if L then m0 else m0 ++ z)) id=true→(Ac (AM (Bp m n k') H') id=true∧hget (AM (Bp m n k') H' ++ A5 H (if L then m0 else m0 ++ z)) id=hget (AM (Bp m n k') H') id) ∨ (Ac (A5 H (if L then m0 else m0 ++ z)) id=true∧hget (AM (Bp m n k') H' ++ A5 H (if L then m0 else m0 ++ z)) id=hget (A5 H (if L then m0 else m0 ++ z)) id):=by
   intro id hid
   rw [B7] at hid
   cases hr':Ac (AM (Bp m n k') H') id with
   | true=>exact .inl ⟨rfl,CN hr'⟩
   | false=>rw [hr',Bool.false_or] at hid;exact .inr ⟨hid,Bs hr'⟩
  have hsep:∀ i j,Ac H i=true→i ∉ m0→Ac H' j=true→e.ρ i ≠ e2.ρ j:=by
   intro i j hi him hj he
   rcases (hI'.blk j hj).2.2.2 with h | h
   ·obtain ⟨i',h1,h2⟩:=hO _ h
    exact him (by rw [hI.inj i i' hi (hall0 i' h1) (he.trans h2.symm)];exact h1)
   ·have h:e.w.heap.size≤e2.ρ j:=h
    have:=hI.rb i (hI.blk i hi).1
    omega
  refine ⟨?_,?_,?_,?_,?_,?_,fun b hb=>him' b (hI.keep b hb),?_,hI.gs.mono hle,hI'.φ,hI'.τ⟩
  ·exact hI.ev.trans hI'.ev (fun b hb=>by
    obtain ⟨i,h1,rfl⟩:=hO b hb
    rcases (hI.blk i (hall0 i h1)).2.2.2 with h | h
    ·exact .inl h
    ·exact .inr h)
  ·intro id hid
   rcases hblk id hid with ⟨h1,h2⟩ | ⟨h1,h2⟩
   ·obtain ⟨j,k1,k2,k3,k4,k5⟩:=hrenb id h1
    obtain ⟨q1,q2,q3,q4⟩:=hI'.blk j k1
    rw [h2,k5,k3]
    exact ⟨k2,KV hpush k3 (fun hl=>(hL hl).2 j k1) q2,fun h=>q3 (him2' _ h),hnew _ q4⟩
   ·obtain ⟨k1,k2,k3,k4⟩:=hold id h1
    obtain ⟨q1,q2,q3,q4⟩:=hI.blk id k1
    have hne:∀ i ∈ m0,e.ρ i ≠ e.ρ id:=fun i hi he=>k2 (by rw [← hI.inj i id (hall0 i hi) k1 he];exact hi)
    rw [h2,k4,hρold id q1]
    refine ⟨.inl q1,Cd hle q1 (hsame _ (hI.rb id q1) hne) q2,?_,q4⟩
    intro h
    have h:if L then e.im (e.ρ id) else e2.im (e.ρ id):=h
    split at h
    ·exact q3 h
    ·rename_i hnl
     rcases hI'.imo _ h with h | h | h
     ·rcases h with h | ⟨i,hf,he⟩
      ·exact q3 h
      ·obtain ⟨f1,f2,_⟩:=ER hf
       rw [hI.inj id i k1 f2 he] at k3
       exact k3 hnl f1
     ·obtain ⟨i,h1,h2⟩:=hO _ h
      exact hne i h1 h2
     ·have h:e.w.heap.size≤e.ρ id:=h
      have:=hI.rb id q1
      omega
  ·intro i j hi hj hij
   rcases hblk i hi with ⟨h1,_⟩ | ⟨h1,_⟩ <;> rcases hblk j hj with ⟨h2,_⟩ | ⟨h2,_⟩
   ·obtain ⟨a,a1,_,a3,a4,_⟩:=hrenb i h1
    obtain ⟨b,b1,_,b3,b4,_⟩:=hrenb j h2
    rw [a3,b3] at hij
    have:=hI'.inj a b a1 b1 hij
    subst this
    rw [a4] at b4
    simpa using b4
   ·obtain ⟨a,a1,_,a3,_⟩:=hrenb i h1
    obtain ⟨b1,b2,_⟩:=hold j h2
    rw [a3,hρold j (hI.blk j b1).1] at hij
    exact absurd hij.symm (hsep j a b1 b2 a1)
   ·obtain ⟨a,a1,_,a3,_⟩:=hrenb j h2
    obtain ⟨b1,b2,_⟩:=hold i h1
    rw [a3,hρold i (hI.blk i b1).1] at hij
    exact absurd hij (hsep i a b1 b2 a1)
   ·obtain ⟨b1,_⟩:=hold i h1
    obtain ⟨b2,_⟩:=hold j h2
    rw [hρold i (hI.blk i b1).1,hρold j (hI.blk j b2).1] at hij
    exact hI.inj i j b1 b2 hij
  ·intro b hb
   have hb:if L then e.im b else e2.im b:=hb
   split at hb
   ·exact hI.imo b hb
   ·rcases hI'.imo b hb with h | h | h
    ·rcases h with h | ⟨i,hf,rfl⟩
     ·exact hI.imo b h
     ·exact .inr (hI.blk i (ER hf).2.1).2.2.2
    ·exact .inr (hnew b (.inl h))
    ·exact .inr (hnew b (.inr h))
  ·intro b hb
   exact hI'.imb b (him2' b hb)
  ·intro id hid
   rcases hid with hid | ⟨h1,h2⟩
   ·rw [hρold id hid]
    have:=hI.rb id hid
    show e.ρ id < e2.w.heap.size
    omega
   ·show (if n≤id then _ else _) < _
    rw [if_pos h1]
    exact hI'.rb _ h2
  ·intro id hid
   obtain ⟨h1,h2⟩:=hI.low id hid
   exact ⟨.inl h1,(hρold id h1).trans h2⟩
 ·rintro id (h | ⟨h1,h2⟩)
  ·exact .inl h
  ·refine .inr ⟨h1,?_⟩
   have:=Nat.lt_of_not_le (fun h=>hD' _ h h2)
   omega
theorem Q8 {f:Nat} {us:List V} {H:Hp} {n:Nat} {K:V→Hp→Prop} {us0:List V} {H0:Hp} {k:Nat} {Q:V→Hp→Nat→Prop} (hr:Af M f us0 H0 k Q) (L:Prop) [Decidable L] (m m0 z:List Nat) (h0:∀ id i,Ac H0 id=true→m[id]?=some i→i ∈ m0) (h0m:∀ i ∈ m0,i ∈ m)
 (hm:m.Nodup) (hz:∀ i ∈ z,i ∉ m) (hk:m.length=k) (hall0:∀ i ∈ m0,Ac H i=true) (hall:∀ i ∈ m,Ac H i=true ∨ CL us i=true) (hus:Bh H m z us0 us) (hH:Bq H m z H0)
 (hK:∀ v H' k',Q v H' k'→(k'≤k + 16∧(L→A7 v∧SL H'))∧K (v.ren (Bp m n k')) (AM (Bp m n k') H' ++ A5 H (if L then m0 else m0 ++ z))):AT M f us H n K :=
 GV hr L m m0 z h0 h0m hm hz hk hall0 (fun i hi=>(hall i hi).imp_right .inl) hus hH hK
end Mv
