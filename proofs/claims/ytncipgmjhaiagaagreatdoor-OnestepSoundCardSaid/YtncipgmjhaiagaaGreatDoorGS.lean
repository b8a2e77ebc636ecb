/- A part. -/
import Derived.Test.YtncipgmjhaiagaaGreatDoorGR
set_option linter.all false
set_option maxRecDepth 20000
set_option maxHeartbeats 4000000
namespace Mv
open Go
def Ba (m r:Nat) (pc:BitVec 64) (hl:Bool) (ex:BitVec 64):V :=
 .st 5 (.fcons 0 (.sl m [] 0 8192 1) (.fcons 1 (.sl r [] 0 16 1) (.fcons 2 (W pc) (.fcons 3 (.bool hl) (.fcons 4 (W ex) .fnil)))))
theorem Ah8 (H:Hp) (m z:List Nat):Aw H m z (W 0) (V.int .u64 0)=True:=by simp only [W,Aw];exact eq_true rfl
theorem Apj (H:Hp) (m z:List Nat):Aw H m z (W 0#64) (V.int .u64 0)=True:=Ah8 H m z
theorem Me {M:Seat} (ok:OkM M) :
 Af M 74 [.nils] [] 0 (Q3 (Ao (.ptr 0 []) .nili) [(0,mach (fun _=>0) (fun _=>0) 0 false 0)] 1):=by
 refine Ac ok.k74 rfl fun x hx=>?_
 refine es 30 ?_
 have d1:decide ((8192:Int) < 0)=false:=rfl
 simp only [f74,c74,d1,CH,↓Ab,ex,Ro,AC,A5,Ad,seval]
 refine Aq.mk hx [96] [] (Ao (.ptr 0 []) .nili) [(0,mach (fun _=>0) (fun _=>0) 0 false 0)] 1 Ak ?_ ?_ ?_ ⟨rfl,rfl,rfl⟩
 ·simp only [Lc,↓Ab,ex,Ro,AC,A5,Ad,seval]
 ·simp only [Lb,↓Ab,ex,Ro,AC,A5,Ad,seval]
 ·simp only [mach,Ah8,Apj,A7,seval]
theorem D9 {M:Seat} (ok:OkM M) (f g:Nat→BitVec 64) (pc:BitVec 64) (hl:Bool) (e:BitVec 64) :
 Af M 49 [.imm (mach f g pc hl e)] [] 0 (Q3 (.ptr 0 []) [(0,mach f g pc hl e)] 1):=by
 refine Ac ok.k49 rfl fun x hx=>?_
 refine es 30 ?_
 simp only [f49,c49,mach,RH,Q9,CH,↓Ab,ex,Ro,AC,A5,Ad,seval]
 refine Aq.mk hx [96] [] (.ptr 0 []) [(0,mach f g pc hl e)] 1 Ak ?_ ?_ ?_ ⟨rfl,rfl,rfl⟩
 ·simp only [Lc,↓Ab,ex,Ro,AC,A5,Ad,seval]
 ·simp only [Lb,↓Ab,ex,Ro,AC,A5,Ad,seval]
 ·simp only [mach,A7,seval]
def Bn (rs:List (BitVec 64)):V:=.lst 1 rs.length (ws rs)
def Ak1 (f g:Nat→BitVec 64) (pc:BitVec 64) (hl:Bool) (xt:BitVec 64) (m:Nat):Hp :=
 [(m,mach f g pc hl xt),(m + 1,Ba (m + 2) (m + 3) pc hl xt),(m + 2,.ar 1 8192 (fun j=>W (f j))),(m + 3,.ar 1 16 (fun j=>W (g j)))]
theorem Bp (m:List Nat) (f g:Nat→BitVec 64) (pc:BitVec 64) (hl:Bool) (xt:BitVec 64):(mach f g pc hl xt).ren m=mach f g pc hl xt:=rfl
theorem Qr (f g:Nat→BitVec 64) (pc:BitVec 64) (hl:Bool) (xt:BitVec 64):(mach f g pc hl xt).solid=true:=rfl
theorem FH (H:Hp) (m z:List Nat) (f g:Nat→BitVec 64) (pc:BitVec 64) (hl:Bool) (xt:BitVec 64):Aw H m z (mach f g pc hl xt) (mach f g pc hl xt):=by
 simp only [mach,A7,seval]
def Xs (f:Nat→BitVec 64) (i:Nat):List Dg:=(List.range 13).map (fun h=>Bm f h ((i / 2 ^ h) ^^^ 1))
theorem Aim (f:Nat→BitVec 64) (i j:Nat) (hj:j < 13):(Xs f i).getD j Dg.zero=Bm f j ((i / 2 ^ j) ^^^ 1):=by
 simp [Xs,List.getD,List.getElem?_map,List.getElem?_range hj]
theorem Ty {n:Nat} (h:n % 2=0):n ^^^ 1=n + 1:=by
 have h1:(n ^^^ 1) / 2=n / 2:=by rw [Nat.xor_div_two];simp
 have h2:=@Nat.xor_mod_two_eq_one n 1
 omega
theorem Y3 {n:Nat} (h:n % 2 ≠ 0):n ^^^ 1=n - 1:=by
 have h1:(n ^^^ 1) / 2=n / 2:=by rw [Nat.xor_div_two];simp
 have h2:=@Nat.xor_mod_two_eq_one n 1
 omega
def E9 (f:Nat→BitVec 64) (i:Nat) (v:BitVec 64) (j:Nat):BitVec 64:=if j=i then v else f j
def Og:=(aq2 @JZ @E9.eq_1)
theorem HY (f:Nat→BitVec 64) (i:Nat) (v:BitVec 64):∀ q s,s ≠ i / 2 ^ q→Bm (E9 f i v) q s=Bm f q s
 | 0, s, h => by
   have h:s ≠ i:=Jk
   simp only [Bm,E9,if_neg h]
 | q + 1, s, h => by
   rw [JG] at h
   rw [Bm,Bm,HY f i v q _ Aa,HY f i v q _ Aa]
theorem JS (f:Nat→BitVec 64) (i:Nat) (hi:i < 8192) (v:BitVec 64):∀ q,q≤13→BZ i (B5 v) (Xs f i) q=Bm (E9 f i v) q (i / 2 ^ q)
 | 0,_=>by simp [BZ,Bm,E9,hi]
 | q + 1, h => by
   rw [BZ,JS f i hi v q Aa,Aim _ _ _ Aa,Bm,JG]
   by_cases he:i / 2 ^ q % 2=0
   ·rw [if_pos he,Ty he]
    have e1:2 * (i / 2 ^ q / 2)=i / 2 ^ q:=Aa
    rw [e1,HY f i v q (i / 2 ^ q + 1) Aa]
   ·rw [if_neg he,Y3 he]
    have e1:2 * (i / 2 ^ q / 2) + 1=i / 2 ^ q:=Aa
    have e2:2 * (i / 2 ^ q / 2)=i / 2 ^ q - 1:=Aa
    rw [e1,e2,HY f i v q (i / 2 ^ q - 1) Aa]
theorem Wa (f:Nat→BitVec 64) (i:Nat):E9 f i (f i)=f:=by
 funext j;unfold E9;split
 ·rename_i h;rw [h]
 ·rfl
theorem FW (f:Nat→BitVec 64) (i:Nat) (hi:i < 8192):BZ i (B5 (f i)) (Xs f i) 13=Bm f 13 0:=by
 rw [JS f i hi (f i) 13 Aa,Wa,Nat.div_eq_of_lt Aa]
theorem PH (f:Nat→BitVec 64) (i:Nat) (hi:i < 8192) (v:BitVec 64):BZ i (B5 v) (Xs f i) 13=Bm (E9 f i v) 13 0:=by
 rw [JS f i hi v 13 Aa,Nat.div_eq_of_lt Aa]
theorem K1 {M:Seat} {f:Nat} {us us0:List V} {H:Hp} {n:Nat} {K:V→Hp→Prop} {v:V} (z:List Nat) (hr:Af M f us0 [] 0 (Q3 v [] 0)) (hus:AV H [] z us0 us) (hv:v.ren (Bc [] n 0)=v) (hn:AD v) (hK:K v H):AS M f us H n K:=by
 refine B3 hr True [] z List.nodup_nil Bu rfl Bu hus trivial ?_
 rintro v' H' k' ⟨rfl,rfl,rfl⟩
 refine ⟨⟨by omega,fun _=>⟨hn,fun id h=>by simp [Ae] at h⟩⟩,?_⟩
 rw [hv]
 simpa [AQ,A4] using hK
theorem Ae6 (c:Bool):AH c .ptr .nilp .nilp=True:=rfl
theorem Af7:AN .ptr .nilp .nilp=true:=rfl
theorem Ae5 (c:Bool) (ts:List Nat) (t:Nat) (v:V):AH c (.iface ts) .nili (.ifc t v)=True:=by cases v <;> simp [AH]
theorem Agt (ts:List Nat) (t:Nat) (v:V):AN (.iface ts) .nili (.ifc t v)=false:=by cases v <;> rfl
theorem Akx (c a b:Bool):AH c .bool (.bool a) (.bool b)=True:=rfl
theorem Ako (a b:Bool):AN .bool (.bool a) (.bool b)=(a == b):=by cases a <;> cases b <;> rfl
theorem Alg (c:Bool) (k:IntKind) (a b:Int):AH c .int (.int k a) (.int k b)=True:=by simp [AH]
theorem Aju (k k':IntKind) (a b:Int):AN .int (.int k a) (.int k' b)=decide (a=b):=rfl
theorem Ak0 (c:Bool) (a b:Int):AH c (.iface [74]) (.ifc 74 (.int .i64 a)) (.ifc 74 (.int .i64 b))=True:=by simp [AH]
theorem Alp (ts:List Nat) (t:Nat) (a b:Int):AN (.iface ts) (.ifc t (.int .i64 a)) (.ifc t (.int .i64 b))=decide (a=b):=by simp [AN]
theorem Ajv (a b:Prop):(bif true then a else b)=a:=rfl
theorem Alh (a b:Prop):(bif false then a else b)=b:=rfl
theorem Anh (f:X→V) (a:X) (l:List X):(a :: l).map f=f a :: l.map f:=rfl
theorem An1 (f:X→V):([]:List X).map f=[]:=rfl
theorem Anr {a b:Bool}:(bif true then a else b)=a:=rfl
theorem Akg (f:X→V):(none:Option X).map f=none:=rfl
theorem Aj8 (f:X→V) (a:X):(some a).map f=some (f a):=rfl
theorem Adf (a:V) (l m:List V):a :: l ++ m=a :: (l ++ m):=rfl
theorem fcT (a b:List (Nat × Hp)):(bif true then a else b)=a:=rfl
theorem fcF (a b:List (Nat × Hp)):(bif false then a else b)=b:=rfl
theorem flN (f:Nat × Nat × V→Bool):([]:List (Nat × Nat × V)).filter f=[]:=rfl
theorem Ane (a:LOp) (l:List LOp):(a :: l).length=l.length + 1:=rfl
theorem neN (a b:Nat):(a ≠ b) = ¬ (a=b):=rfl
theorem neI (a b:Int):(a ≠ b) = ¬ (a=b):=rfl
theorem neW (a b:BitVec 64):(a ≠ b) = ¬ (a=b):=rfl
theorem nlz (n:Nat):(n < 0)=False:=Bu
theorem bTF:(true == false)=false:=rfl
theorem bFT:(false == true)=false:=rfl
theorem Amw:([]:List LOp).length=0:=rfl
def LG:=(Apm (aq2 (Apl @Ajm @XV @Zs @Abs @XZ @WE @Ws @Af9 @Aa7 @Afh @Aec) (Apl @TY @Acs @UF @Aa2 @Acy @Aby @Xb @XI @Ui @Aab @Zc)) (aq2 (Apl @Zu @Aal @V6 @Abm @YR @WP @Abw @Xz @Acf @VM @Yi) (Apl @Aez @Zt @Ahh @Ab6 @Zn @Aej @Z4 @Aa0 @Afe @Acl @Akt)) (aq2 (Apl @Ajj @Akp @Ail @Ahz @Adu @Afx @Ym @XE @U3 @ZP @Aa6) (Apo @Aa4 @VA @Aiw @Aeg @Zb @Xh @Ahu @ZB @Agp @Ae9 @Aef @WH)) (aq2 (Apl @Acb @Abb @XJ @Acj @Aa8 @Ahv @ZC @WD @Q7 @Agy @Z8) (Apl @Zm @Uf @W5 @Pg @Ub @Zf @Vo @Zr @Ai0 @Ag9 @Zv)) (aq2 (Apl @Abt @Ze @V3 @Ts @VW @Ur @Mb @Zp @Xp @YX @YT) (Apo @Zh @Acu @Aea @Ais @Afl @Ahs @Aey @Ahd @Af2 @Ahe @Aha @Agi)) (aq2 (Apl @Af5 @Aex @Zg @Zq @Ae1 @Agl @Aap @Afn @Afb @Aiq @Aiy) (Apl @ZK @Aj5 @ZQ @Aeq @JJ @J6 @Ie @E5 @Fv @EU @EZ)) (aq2 (Apl @GY @Hb @GW @J0 @Tt @Te @RU @Sl @Tj @SP @Sd) (Apo @Sy @Aid @Air @WO @VZ @Tu @S3 @SF @Sx @SI @RZ @S5)) (aq2 (Apl @An2 @An7 @Am8 @Ana @Ajk @Amz @ZL @Ab9 @Aav @Z3 @Af0) (Apl @RoN @ZR @Akd @Al3 @Vd @Xe @ZY @Alf @Ajd @Ake @XQ)) (aq2 (Apl @Y0 @Xn @Xc @Aaf @Amj @exZ @exN @X0 @Adq @V1 @Ac8) (Apl @Tk @Wr @Vv @Adh @Adb @Ads @Ab @Od @Hh @Ea @Je)) (aq2 (Apl @GO @BH @not_false_eq_true @true_and @and_true @true_or @or_true @and_self @false_and @and_false @neN) (Apo @neI @neW @not_true_eq_false @Ib @NY @SX @Hm @N3 @Tf @DG @Jz @NK)) (aq2 (Apl @Iv @Jf @Iq @Gb @Hu @Ex @DK @En @DH @Ez @Es) (Apl @DI @FD @Ep @DN @Er @DF @FL @DA @Em @FI @FB)) (aq2 (Apl @HK @Gi @H5 @Xa0 @Hk @Hq @FV @JN @HC @FX @Hy) (Apo @Gk @J9 @FY @HQ @J2 @J4 @JA @HT @J5 @HV @JP @JD)) (aq2 (Apl @HI @ME @JK @H8 @J7 @HF @Nn @Ic @J8 @MS @MR) (Apl @Bool.not_true @Bool.not_false @Bool.and_true @Bool.true_and @Bool.or_true @Bool.true_or @Bool.or_false @Bool.false_or @Bool.false_and @Bool.and_false @Bool.false_xor)) (aq2 (Apl @Bool.xor_false @Bool.true_xor @Bool.xor_true @Bool.not_not @Bool.and_self @Bool.or_self @Int.toNat_natCast @Int.toNat_zero @Nat.add_zero @Nat.zero_add @Nat.sub_zero) (Apo @Int.natCast_zero @Nat.mul_zero @Nat.zero_or @Nat.or_zero @Nat.and_zero @Nat.zero_and @Nat.zero_shiftRight @decide_true @decide_false @ZG @Z6 @Zz)) (aq2 (Apl @and_assoc @MZ @NI @Vp @Xu @Ae5 @Agt @VC @WU @RH @Q9) (Apl @Ae6 @Af7 @Akx @Ako @Alg @Aju @Ak0 @Alp @Bool.false_eq_true @Bool.true_eq_false @false_implies)) (aq2 (Apl @true_implies @Ajv @Alh @Anh @An1 @Anr @Akg @Aj8 @Adf @Nat.le_refl @Int.le_refl) (Apo @fcT @fcF @flN @Ane @Amw @nlz @bTF @bFT @Al2 @BX.eq_1 @BX.eq_2 @BX.eq_3)))
variable {M:Seat}
theorem Inv.sim2 {c c':Ctx} {e:Env} {H:Hp} (hI:Inv M c e H) {m z:List Nat} (hm:m.Nodup) (hz:∀ i ∈ z,i ∉ m) {H':Hp} (hH:Bk H m z H')
 (hc:(c'=c∧∀ j,j < c.k→m[j]?=some j) ∨ (c'=⟨e.sim H m z,fun b=>∃ id,Ae H' id=true∧(e.sim H m z).ρ id=b,m.length⟩∧∀ i ∈ m,e.D i)):Inv M c' (e.sim H m z) H':=by
 have hp:=Pull.of hI m z
 have hblk:∀ j,Ae H' j=true→(e.sim H m z).D j∧Eb (e.sim H m z) j (hget H' j)∧¬ (e.sim H m z).im ((e.sim H m z).ρ j)∧(c.O ((e.sim H m z).ρ j) ∨ c.e0.w.heap.size≤(e.sim H m z).ρ j):=by
  intro j hj
  obtain ⟨i,h1,h2,h3⟩:=CK hH j hj
  obtain ⟨k1,k2,k3,k4⟩:=hI.blk i h2
  have hρ:(e.sim H m z).ρ j=e.ρ i:=by simp [Env.sim,h1]
  refine ⟨⟨i,h1,k1⟩,Mr hp hρ h3 k2,?_,?_⟩
  ·rw [hρ]
   rintro (h | ⟨i',hf,he⟩)
   ·exact k3 h
   ·obtain ⟨f1,f2,_⟩:=EV hf
    have:=hI.inj i i' h2 f2 he
    subst this
    exact hz _ f1 (List.mem_of_getElem? h1)
  ·rw [hρ];exact k4
 have hinj:∀ i j,Ae H' i=true→Ae H' j=true→(e.sim H m z).ρ i=(e.sim H m z).ρ j→i=j:=by
  intro i j hi hj hij
  obtain ⟨i',h1,h2,_⟩:=CK hH i hi
  obtain ⟨j',h3,h4,_⟩:=CK hH j hj
  simp only [Env.sim,h1,h3] at hij
  have:=hI.inj i' j' h2 h4 hij
  subst this
  exact getElem?_nodup hm h1 h3
 have himo:∀ b,(e.sim H m z).im b→c.e0.im b ∨ c.O b ∨ c.e0.w.heap.size≤b:=by
  rintro b (h | ⟨i,hf,rfl⟩)
  ·exact hI.imo b h
  ·exact .inr (hI.blk i (EV hf).2.1).2.2.2
 have himb:∀ b,(e.sim H m z).im b→∃ cells el fz,(e.sim H m z).w.heap[b]?=some (.cells cells el fz):=by
  rintro b (h | ⟨i,hf,rfl⟩)
  ·exact hI.imb b h
  ·obtain ⟨_,cells,el,h1,_⟩:=hp.fz i hf
   exact ⟨cells,el,_,h1⟩
 have hrb:∀ id,(e.sim H m z).D id→(e.sim H m z).ρ id < (e.sim H m z).w.heap.size:=by
  rintro id ⟨i,h1,h2⟩
  simp only [Env.sim,h1]
  exact hI.rb i h2
 have hgs:GS M (e.sim H m z):=⟨fun g hg =>
  D1 hp (show Aw H m z (.imm (US g)) (.imm (US g)) from SQ H m z g) (hI.gs.1 g hg),fun p hp'=>⟨.inl (hI.gs.2 p hp').1,(hI.gs.2 p hp').2⟩⟩
 rcases hc with ⟨rfl,hlow⟩ | ⟨rfl,hall⟩
 ·refine ⟨hI.ev,hblk,hinj,himo,himb,hrb,fun b hb=>.inl (hI.keep b hb),fun id hid=>?_,hgs,hI.φ,hI.τ⟩
  obtain ⟨h1,h2⟩:=hI.low id hid
  exact ⟨⟨id,hlow id hid,h1⟩,by simp only [Env.sim,hlow id hid];exact h2⟩
 ·refine ⟨Ev.refl _ _,fun j hj=>⟨(hblk j hj).1,(hblk j hj).2.1,(hblk j hj).2.2.1,.inl ⟨j,hj,rfl⟩⟩,hinj,fun b hb=>.inl hb,himb,hrb,fun b hb=>hb,fun id hid=>⟨?_,rfl⟩,hgs,hI.φ,hI.τ⟩
  have hid':id < m.length:=hid
  exact ⟨m[id],List.getElem?_eq_getElem hid',hall _ (List.getElem_mem hid')⟩
def Cv (us:List V) (i:Nat):Bool:=us.any fun v=>match v with | .ptr j _=>j == i | .map j=>j == i | .sl j _ _ _ _=>j == i | _=>false
theorem XT {e:Env} {us:List V} {vs:Array Value} (h:Qb e us vs) {i:Nat} (hi:Cv us i=true):e.D i:=by
 unfold Cv at hi
 rw [List.any_eq_true] at hi
 obtain ⟨v,hv,hvi⟩:=hi
 obtain ⟨t,ht,rfl⟩:=List.getElem_of_mem hv
 have:=h.2 t
 rw [show us.getD t .junk=us[t] by simp [List.getD,ht]] at this
 generalize us[t]=v at *
 cases v <;> simp only [Bool.false_eq_true,beq_iff_eq] at hvi
 all_goals (subst hvi;simp only [RV,RS,V.isAgg,R] at this;exact this.1)
def F9 (i:Nat):V→Bool
 | .ptr j _=>j == i
 | .map j=>j == i
 | .sl j _ _ _ _=>j == i
 | .ifc _ v=>F9 i v
 | .st _ fs=>F9 i fs
 | .fcons _ v r=>F9 i r || F9 i v
 | _=>false
theorem Gn {e:Env} {i:Nat}:∀ {v:V} {cs:List Value},R e v cs→F9 i v=true→e.D i
 | .ptr j p,cs,h,hi=>by simp only [F9,beq_iff_eq] at hi;subst hi;simp only [R] at h;exact h.1
 | .map j,cs,h,hi=>by simp only [F9,beq_iff_eq] at hi;subst hi;simp only [R] at h;exact h.1
 | .sl j _ _ _ _,cs,h,hi=>by simp only [F9,beq_iff_eq] at hi;subst hi;simp only [R] at h;exact h.1
 | .ifc _ v, cs, h, hi => by
   simp only [R] at h
   obtain ⟨x,_,_,h⟩:=h
   split at h
   ·obtain ⟨c,_,h⟩:=h;exact Gn h hi
   ·exact Gn h hi
 | .st _ fs,cs,h,hi=>by simp only [R] at h;exact Gn h.2.2 hi
 | .fcons _ v r, cs, h, hi => by
   simp only [R] at h
   simp only [F9,Bool.or_eq_true] at hi
   exact hi.elim (Gn h.2.2.2.2) (Gn h.2.2.2.1)
 | .junk,_,_,hi | .int ..,_,_,hi | .bool _,_,_,hi | .str _,_,_,hi | .nilp,_,_,hi | .imm _,_,_,hi | .nils,_,_,hi | .lst ..,_,_,hi | .nilm,_,_,hi | .nilf,_,_,hi | .fn ..,_,_,hi | .nili,_,_,hi | .ar ..,_,_,hi | .fnil,_,_,hi | .tup _,_,_,hi | .mp ..,_,_,hi=>by simp [F9] at hi
def GJ (l:List Nat) (H:Hp) (i:Nat):Bool:=l.any fun p=>Ae H p && (hget H p).solid && F9 i (hget H p)
theorem Af1 {c:Ctx} {e:Env} {l:List Nat} {H:Hp} (hI:Inv M c e H) {i:Nat} (hi:GJ l H i=true):e.D i:=by
 unfold GJ at hi
 rw [List.any_eq_true] at hi
 obtain ⟨p,_,hp⟩:=hi
 simp only [Bool.and_eq_true] at hp
 obtain ⟨_,_,_,_,hR⟩:=hI.cells hp.1.1 hp.1.2
 exact Gn hR hp.2
theorem GC {f:Nat} {us:List V} {H:Hp} {n:Nat} {K:V→Hp→Prop} {us0:List V} {H0:Hp} {k:Nat} {Q:V→Hp→Nat→Prop} (hr:Af M f us0 H0 k Q) (L:Prop) [Decidable L] (m m0 z:List Nat) (h0:∀ id i,Ae H0 id=true→m[id]?=some i→i ∈ m0) (h0m:∀ i ∈ m0,i ∈ m)
 (hm:m.Nodup) (hz:∀ i ∈ z,i ∉ m) (hk:m.length=k) (hall0:∀ i ∈ m0,Ae H i=true) (hall:∀ i ∈ m,Ae H i=true ∨ Cv us i=true ∨ GJ m0 H i=true) (hus:AV H m z us0 us) (hH:Bk H m z H0)
 (hK:∀ v H' k',Q v H' k'→(k'≤k + 16∧(L→AD v∧Sz H'))∧K (v.ren (Bc m n k')) (AQ (Bc m n k') H' ++ A4 H (if L then m0 else m0 ++ z))):AS M f us H n K:=by
 intro c e vs hI hD hcn ⟨hvs,hargs⟩
 subst hk
 have hp:=Pull.of hI m z
 have hmD:∀ i ∈ m,e.D i:=fun i hi=>(hall i hi).elim (fun h=>(hI.blk i h).1) (fun h=>h.elim (XT ⟨hvs,hargs⟩) (Af1 hI))
 have hI2:Inv M ⟨e.sim H m z,fun b=>∃ id,Ae H0 id=true∧(e.sim H m z).ρ id=b,m.length⟩ (e.sim H m z) H0:=hI.sim2 hm hz hH (.inr ⟨rfl,hmD⟩)
 have hmn:∀ i ∈ m,i < n:=fun i hi=>Nat.lt_of_not_le (fun h=>hD i h (hmD i hi))
 refine (hr (e.sim H m z) vs hI2 ?_ ⟨hvs.trans (Hx hus).symm,fun t=>Nu hp (GX hus t) (hargs t)⟩).mono ?_
 ·rintro id hid ⟨i,h1,_⟩
  have:=(List.getElem?_eq_some_iff.1 h1).1
  omega
 rintro en w' ⟨x,v,e2,H',k',rfl,rfl,hI',hv,hD',hkk,hQ⟩
 obtain ⟨⟨hk16,hL⟩,hKK⟩:=hK v H' k' hQ
 have hO:∀ b,(∃ id,Ae H0 id=true∧(e.sim H m z).ρ id=b)→∃ i ∈ m0,e.ρ i=b:=by
  rintro b ⟨id,h1,h2⟩
  obtain ⟨i,k1,k2,_⟩:=CK hH id h1
  exact ⟨i,h0 id i h1 k1,by simpa [Env.sim,k1] using h2⟩
 have hsame:∀ b,b < e.w.heap.size→(∀ i ∈ m0,e.ρ i ≠ b)→e2.w.heap[b]?=e.w.heap[b]?:=fun b hb hn =>
  hI'.ev.frame b hb (fun ho=>by obtain ⟨i,h1,h2⟩:=hO b ho;exact hn i h1 h2)
 have hsize:e.w.heap.size≤e2.w.heap.size:=hI'.ev.size
 let e' : Env := { ρ := fun i => if n ≤ i then e2.ρ (m.length + (i - n)) else e.ρ i
                   D:=fun i=>e.D i ∨ (n≤i∧e2.D (m.length + (i - n)))
                   im:=fun b=>if L then e.im b else e2.im b
                   w:=e2.w,φ:=e2.φ,τ:=e2.τ }
 have hφ:e2.φ=e.φ:=hI'.φ.trans hI.φ.symm
 have hτ:e2.τ=e.τ:=hI'.τ.trans hI.τ.symm
 have him2:∀ b,e.im b→e2.im b:=fun b hb=>hI'.keep b (.inl hb)
 have him':∀ b,e.im b→e'.im b:=fun b hb=>by
  show if L then _ else _
  split
  ·exact hb
  ·exact him2 b hb
 have him2':∀ b,e'.im b→e2.im b:=fun b hb=>by
  have hb:if L then e.im b else e2.im b:=hb
  split at hb
  ·exact him2 b hb
  ·exact hb
 have hρold:∀ i,e.D i→e'.ρ i=e.ρ i:=fun i hi=>by
  show (if n≤i then _ else _)=_
  rw [if_neg (fun h=>hD i h hi)]
 have hle:e.le e':=by
  refine ⟨fun i hi=>⟨.inl hi,hρold i hi⟩,fun b hb=>⟨him' b hb,fun cc el fz hc=>⟨el,fz,?_⟩⟩,hI'.ev.bs,hφ,hτ⟩
  show e2.w.heap[b]?=_
  rw [hsame b (hI.imlt b hb) (fun i hi he=>(hI.blk i (hall0 i hi)).2.2.1 (he ▸ hb))]
  exact hc
 have hpush:Push L (Bc m n k') e2 e':=by
  refine ⟨fun j hj=>?_,fun hnl b hb=>?_,rfl,rfl,rfl⟩
  ·have hjk:j < k':=Nat.lt_of_not_le (fun h=>hD' j h hj)
   have hg:=Qd (n:=n) hkk j hjk
   by_cases hjm:j < m.length
   ·rw [dif_pos hjm] at hg
    have hmj:=hmD m[j] (List.getElem_mem hjm)
    refine ⟨m[j],hg,.inl hmj,?_⟩
    rw [hρold _ hmj]
    have:=(hI'.low j hjm).2
    rw [this]
    simp [Env.sim,List.getElem?_eq_getElem hjm]
   ·rw [dif_neg hjm] at hg
    have e1:m.length + (n + (j - m.length) - n)=j:=Aa
    refine ⟨_,hg,.inr ⟨by omega,by rw [e1];exact hj⟩,?_⟩
    show (if _ then _ else _)=_
    rw [if_pos Aa,e1]
  ·show if L then _ else _
   rw [if_neg hnl];exact hb
 have hnd:(Bc m n k').Nodup:=K6 hm hmn
 have hnew:∀ b,(∃ id,Ae H0 id=true∧(e.sim H m z).ρ id=b) ∨ (e.sim H m z).w.heap.size≤b→c.O b ∨ c.e0.w.heap.size≤b:=by
  rintro b (h | h)
  ·obtain ⟨i,h1,rfl⟩:=hO b h
   exact (hI.blk i (hall0 i h1)).2.2.2
  ·have h:e.w.heap.size≤b:=h
   have:=hI.ev.size
   exact .inr Aa
 have hold:∀ id,Ae (A4 H (if L then m0 else m0 ++ z)) id=true→Ae H id=true∧id ∉ m0∧(¬ L→id ∉ z)∧hget (A4 H (if L then m0 else m0 ++ z)) id=hget H id:=by
  intro id hid
  rw [GD] at hid
  simp only [YC,List.contains_eq_mem,decide_eq_false_iff_not] at hid
  refine ⟨hid.1,?_,?_,GF _ _ _ hid.2⟩
  ·intro h';apply hid.2;split
   ·exact h'
   ·exact List.mem_append_left _ h'
  ·intro hnl h';apply hid.2;rw [if_neg hnl];exact List.mem_append_right _ h'
 have hrenb:∀ id,Ae (AQ (Bc m n k') H') id=true→∃ j,Ae H' j=true∧e'.D id∧e'.ρ id=e2.ρ j∧(Bc m n k')[j]?=some id∧hget (AQ (Bc m n k') H') id=(hget H' j).ren (Bc m n k'):=by
  intro id hid
  obtain ⟨j,h1,h2,h3⟩:=Ho hnd hid
  obtain ⟨i,k1,k2,k3⟩:=hpush.D j (hI'.blk j h2).1
  rw [h1] at k1
  simp only [Option.some.injEq] at k1
  subst k1
  exact ⟨j,h2,k2,k3,h1,h3⟩
 refine ⟨x,v.ren (Bc m n k'),e',AQ (Bc m n k') H' ++ A4 H (if L then m0 else m0 ++ z),rfl,rfl,hle,?_,Tq hpush (fun hl=>(hL hl).1) hv,?_,hKK⟩
 ·have hblk:∀ id,Ae (AQ (Bc m n k') H' ++ A4 H (if L then m0 else m0 ++ z)) id=true→(Ae (AQ (Bc m n k') H') id=true∧hget (AQ (Bc m n k') H' ++ A4 H (if L then m0 else m0 ++ z)) id=hget (AQ (Bc m n k') H') id) ∨ (Ae (A4 H (if L then m0 else m0 ++ z)) id=true∧hget (AQ (Bc m n k') H' ++ A4 H (if L then m0 else m0 ++ z)) id=hget (A4 H (if L then m0 else m0 ++ z)) id):=by
   intro id hid
   rw [AX] at hid
   cases hr':Ae (AQ (Bc m n k') H') id with
   | true=>exact .inl ⟨rfl,C3 hr'⟩
   | false=>rw [hr',Bool.false_or] at hid;exact .inr ⟨hid,AO hr'⟩
  have hsep:∀ i j,Ae H i=true→i ∉ m0→Ae H' j=true→e.ρ i ≠ e2.ρ j:=by
   intro i j hi him hj he
   rcases (hI'.blk j hj).2.2.2 with h | h
   ·obtain ⟨i',h1,h2⟩:=hO _ h
    exact him (by rw [hI.inj i i' hi (hall0 i' h1) (he.trans h2.symm)];exact h1)
   ·have h:e.w.heap.size≤e2.ρ j:=h
    have:=hI.rb i (hI.blk i hi).1
    omega
  refine ⟨?_,?_,?_,?_,?_,?_,fun b hb=>him' b (hI.keep b hb),?_,hI.gs.mono hle,hI'.φ,hI'.τ⟩
  ·exact hI.ev.trans hI'.ev (fun b hb=>by
    obtain ⟨i,h1,rfl⟩:=hO b hb
    rcases (hI.blk i (hall0 i h1)).2.2.2 with h | h
    ·exact .inl h
    ·exact .inr h)
  ·intro id hid
   rcases hblk id hid with ⟨h1,h2⟩ | ⟨h1,h2⟩
   ·obtain ⟨j,k1,k2,k3,k4,k5⟩:=hrenb id h1
    obtain ⟨q1,q2,q3,q4⟩:=hI'.blk j k1
    rw [h2,k5,k3]
    exact ⟨k2,KG hpush k3 (fun hl=>(hL hl).2 j k1) q2,fun h=>q3 (him2' _ h),hnew _ q4⟩
   ·obtain ⟨k1,k2,k3,k4⟩:=hold id h1
    obtain ⟨q1,q2,q3,q4⟩:=hI.blk id k1
    have hne:∀ i ∈ m0,e.ρ i ≠ e.ρ id:=fun i hi he=>k2 (by rw [← hI.inj i id (hall0 i hi) k1 he];exact hi)
    rw [h2,k4,hρold id q1]
    refine ⟨.inl q1,BP hle q1 (hsame _ (hI.rb id q1) hne) q2,?_,q4⟩
    intro h
    have h:if L then e.im (e.ρ id) else e2.im (e.ρ id):=h
    split at h
    ·exact q3 h
    ·rename_i hnl
     rcases hI'.imo _ h with h | h | h
     ·rcases h with h | ⟨i,hf,he⟩
      ·exact q3 h
      ·obtain ⟨f1,f2,_⟩:=EV hf
       rw [hI.inj id i k1 f2 he] at k3
       exact k3 hnl f1
     ·obtain ⟨i,h1,h2⟩:=hO _ h
      exact hne i h1 h2
     ·have h:e.w.heap.size≤e.ρ id:=h
      have:=hI.rb id q1
      omega
  ·intro i j hi hj hij
   rcases hblk i hi with ⟨h1,_⟩ | ⟨h1,_⟩ <;> rcases hblk j hj with ⟨h2,_⟩ | ⟨h2,_⟩
   ·obtain ⟨a,a1,_,a3,a4,_⟩:=hrenb i h1
    obtain ⟨b,b1,_,b3,b4,_⟩:=hrenb j h2
    rw [a3,b3] at hij
    have:=hI'.inj a b a1 b1 hij
    subst this
    rw [a4] at b4
    simpa using b4
   ·obtain ⟨a,a1,_,a3,_⟩:=hrenb i h1
    obtain ⟨b1,b2,_⟩:=hold j h2
    rw [a3,hρold j (hI.blk j b1).1] at hij
    exact absurd hij.symm (hsep j a b1 b2 a1)
   ·obtain ⟨a,a1,_,a3,_⟩:=hrenb j h2
    obtain ⟨b1,b2,_⟩:=hold i h1
    rw [a3,hρold i (hI.blk i b1).1] at hij
    exact absurd hij (hsep i a b1 b2 a1)
   ·obtain ⟨b1,_⟩:=hold i h1
    obtain ⟨b2,_⟩:=hold j h2
    rw [hρold i (hI.blk i b1).1,hρold j (hI.blk j b2).1] at hij
    exact hI.inj i j b1 b2 hij
  ·intro b hb
   have hb:if L then e.im b else e2.im b:=hb
   split at hb
   ·exact hI.imo b hb
   ·rcases hI'.imo b hb with h | h | h
    ·rcases h with h | ⟨i,hf,rfl⟩
     ·exact hI.imo b h
     ·exact .inr (hI.blk i (EV hf).2.1).2.2.2
    ·exact .inr (hnew b (.inl h))
    ·exact .inr (hnew b (.inr h))
  ·intro b hb
   exact hI'.imb b (him2' b hb)
  ·intro id hid
   rcases hid with hid | ⟨h1,h2⟩
   ·rw [hρold id hid]
    have:=hI.rb id hid
    show e.ρ id < e2.w.heap.size
    omega
   ·show (if n≤id then _ else _) < _
    rw [if_pos h1]
    exact hI'.rb _ h2
  ·intro id hid
   obtain ⟨h1,h2⟩:=hI.low id hid
   exact ⟨.inl h1,(hρold id h1).trans h2⟩
 ·rintro id (h | ⟨h1,h2⟩)
  ·exact .inl h
  ·refine .inr ⟨h1,?_⟩
   have:=Nat.lt_of_not_le (fun h=>hD' _ h h2)
   omega
theorem Rn {f:Nat} {us:List V} {H:Hp} {n:Nat} {K:V→Hp→Prop} {us0:List V} {H0:Hp} {k:Nat} {Q:V→Hp→Nat→Prop} (hr:Af M f us0 H0 k Q) (L:Prop) [Decidable L] (m m0 z:List Nat) (h0:∀ id i,Ae H0 id=true→m[id]?=some i→i ∈ m0) (h0m:∀ i ∈ m0,i ∈ m)
 (hm:m.Nodup) (hz:∀ i ∈ z,i ∉ m) (hk:m.length=k) (hall0:∀ i ∈ m0,Ae H i=true) (hall:∀ i ∈ m,Ae H i=true ∨ Cv us i=true) (hus:AV H m z us0 us) (hH:Bk H m z H0)
 (hK:∀ v H' k',Q v H' k'→(k'≤k + 16∧(L→AD v∧Sz H'))∧K (v.ren (Bc m n k')) (AQ (Bc m n k') H' ++ A4 H (if L then m0 else m0 ++ z))):AS M f us H n K :=
 GC hr L m m0 z h0 h0m hm hz hk hall0 (fun i hi=>(hall i hi).imp_right .inl) hus hH hK
end Mv
