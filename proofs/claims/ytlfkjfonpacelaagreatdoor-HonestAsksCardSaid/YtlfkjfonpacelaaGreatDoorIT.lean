/- A part. -/
import Derived.Test.YtlfkjfonpacelaaGreatDoorIS
set_option linter.all false
set_option maxRecDepth 20000
set_option maxHeartbeats 4000000
namespace Mv
open Go
def Atg (m r:Nat) (pc:BitVec 64) (hl:Bool) (ex:BitVec 64):V :=
 .st 5 (.fcons 0 (.sl m [] 0 8192 1) (.fcons 1 (.sl r [] 0 16 1) (.fcons 2 (W pc) (.fcons 3 (.bool hl) (.fcons 4 (W ex) .fnil)))))
theorem Z3 (H:Hp) (m z:List Nat):Ay H m z (W 0) (V.int .u64 0)=True:=by simp only [W,Ay];exact eq_true rfl
theorem Aeu (H:Hp) (m z:List Nat):Ay H m z (W 0#64) (V.int .u64 0)=True:=Z3 H m z
theorem N2 {M:Seat} (ok:OkM M) :
 Ae M 74 [.nils] [] 0 (Q3 (Ai (.ptr 0 []) .nili) [(0,mach (fun _=>0) (fun _=>0) 0 false 0)] 1):=by
 refine Ab ok.k74 rfl fun x hx=>?_;refine es 30 ?_;have d1:decide ((8192:Int) < 0)=false:=rfl;simp only [f74,c74,d1,D3,↓Ac,ex,Ro,Bd,Br,Af,seval];refine Ap.mk hx [96] [] (Ai (.ptr 0 []) .nili) [(0,mach (fun _=>0) (fun _=>0) 0 false 0)] 1 Al ?_ ?_ ?_ ⟨rfl,rfl,rfl⟩
 ·simp only [UY,↓Ac,ex,Ro,Bd,Br,Af,seval]
 ·simp only [Vw,↓Ac,ex,Ro,Bd,Br,Af,seval]
 ·simp only [mach,Z3,Aeu,BE,seval]
theorem CX {M:Seat} (ok:OkM M) (f g:Nat→BitVec 64) (pc:BitVec 64) (hl:Bool) (e:BitVec 64) :
 Ae M 49 [.imm (mach f g pc hl e)] [] 0 (Q3 (.ptr 0 []) [(0,mach f g pc hl e)] 1):=by
 refine Ab ok.k49 rfl fun x hx=>?_;refine es 30 ?_;simp only [f49,c49,mach,Z2,YI,D3,↓Ac,ex,Ro,Bd,Br,Af,seval];refine Ap.mk hx [96] [] (.ptr 0 []) [(0,mach f g pc hl e)] 1 Al ?_ ?_ ?_ ⟨rfl,rfl,rfl⟩
 ·simp only [UY,↓Ac,ex,Ro,Bd,Br,Af,seval]
 ·simp only [Vw,↓Ac,ex,Ro,Bd,Br,Af,seval]
 ·simp only [mach,BE,seval]
def Aq2 (f g:Nat→BitVec 64) (pc:BitVec 64) (hl:Bool) (xt:BitVec 64) (m:Nat):Hp :=
 [(m,mach f g pc hl xt),(m + 1,Atg (m + 2) (m + 3) pc hl xt),(m + 2,.ar 1 8192 (fun j=>W (f j))),(m + 3,.ar 1 16 (fun j=>W (g j)))]
theorem Be (m:List Nat) (f g:Nat→BitVec 64) (pc:BitVec 64) (hl:Bool) (xt:BitVec 64):(mach f g pc hl xt).ren m=mach f g pc hl xt:=rfl
theorem Sw (f g:Nat→BitVec 64) (pc:BitVec 64) (hl:Bool) (xt:BitVec 64):(mach f g pc hl xt).solid=true:=rfl
theorem DA (H:Hp) (m z:List Nat) (f g:Nat→BitVec 64) (pc:BitVec 64) (hl:Bool) (xt:BitVec 64):Ay H m z (mach f g pc hl xt) (mach f g pc hl xt):=by
 simp only [mach,BE,seval]
def pth (f:Nat→BitVec 64) (i:Nat):List Dg:=(List.range 13).map (fun h=>Cd f h ((i / 2 ^ h) ^^^ 1))
def JB (f:Nat→BitVec 64) (i:Nat) (v:BitVec 64) (j:Nat):BitVec 64:=if j=i then v else f j
def UR:=(AY @QI @JB.eq_1)
theorem TT {M:Seat} {f:Nat} {us us0:List V} {H:Hp} {n:Nat} {K:V→Hp→Prop} {v:V} (z:List Nat) (hr:Ae M f us0 [] 0 (Q3 v [] 0)) (hus:Bp H [] z us0 us) (hv:v.ren (B8 [] n 0)=v) (hn:AF v) (hK:K v H):Bg M f us H n K:=by
 refine Cq hr True [] z List.nodup_nil B9 rfl B9 hus trivial ?_;rintro v' H' k' ⟨rfl,rfl,rfl⟩;refine ⟨⟨by omega,fun _=>⟨hn,fun id h=>by simp [Ag] at h⟩⟩,?_⟩;rw [hv];simpa [AU,AB] using hK
theorem Akz (c:Bool):AR c .ptr .nilp .nilp=True:=rfl
theorem Al2:AX .ptr .nilp .nilp=true:=rfl
theorem Aj8 (c:Bool) (ts:List Nat) (t:Nat) (v:V):AR c (.iface ts) .nili (.ifc t v)=True:=by cases v <;> simp [AR]
theorem Amf (ts:List Nat) (t:Nat) (v:V):AX (.iface ts) .nili (.ifc t v)=false:=by cases v <;> rfl
theorem Aqt (c a b:Bool):AR c .bool (.bool a) (.bool b)=True:=rfl
theorem Apm (a b:Bool):AX .bool (.bool a) (.bool b)=(a == b):=by cases a <;> cases b <;> rfl
theorem Apz (c:Bool) (k:IntKind) (a b:Int):AR c .int (.int k a) (.int k b)=True:=by simp [AR]
theorem Atp (k k':IntKind) (a b:Int):AX .int (.int k a) (.int k' b)=decide (a=b):=rfl
theorem Asy (c:Bool) (a b:Int):AR c (.iface [74]) (.ifc 74 (.int .i64 a)) (.ifc 74 (.int .i64 b))=True:=by simp [AR]
theorem Asr (ts:List Nat) (t:Nat) (a b:Int):AX (.iface ts) (.ifc t (.int .i64 a)) (.ifc t (.int .i64 b))=decide (a=b):=by simp [AX]
theorem Aul (a b:Prop):(bif true then a else b)=a:=rfl
theorem Aqd (a b:Prop):(bif false then a else b)=b:=rfl
theorem Avf (f:X→V) (a:X) (l:List X):(a :: l).map f=f a :: l.map f:=rfl
theorem Avp (f:X→V):([]:List X).map f=[]:=rfl
theorem Avm {a b:Bool}:(bif true then a else b)=a:=rfl
theorem Aqn (f:X→V):(none:Option X).map f=none:=rfl
theorem As6 (f:X→V) (a:X):(some a).map f=some (f a):=rfl
theorem Air (a:V) (l m:List V):a :: l ++ m=a :: (l ++ m):=rfl
theorem fcT (a b:List (Nat × Hp)):(bif true then a else b)=a:=rfl
theorem fcF (a b:List (Nat × Hp)):(bif false then a else b)=b:=rfl
theorem flN (f:Nat × Nat × V→Bool):([]:List (Nat × Nat × V)).filter f=[]:=rfl
theorem Avq (a:LOp) (l:List LOp):(a :: l).length=l.length + 1:=rfl
theorem neN (a b:Nat):(a ≠ b) = ¬ (a=b):=rfl
theorem neI (a b:Int):(a ≠ b) = ¬ (a=b):=rfl
theorem neW (a b:BitVec 64):(a ≠ b) = ¬ (a=b):=rfl
theorem nlz (n:Nat):(n < 0)=False:=B9
theorem bTF:(true == false)=false:=rfl
theorem bFT:(false == true)=false:=rfl
theorem Avi:([]:List LOp).length=0:=rfl
def LG:=(Fd (AY (FG @Aqm @ZX @Ag2 @Ahp @XH @Aas @XN @Aje @Ae0 @Ai1 @Al9) (FG @W9 @Aeh @V9 @Agl @Aeq @Adn @Zc @Yb @VD @Agv @Af6)) (AY (FG @Aes @Aey @Aau @Ahi @Ahw @Y2 @Ade @Acv @Afb @Aa2 @ZN) (EZ @Aml @Ahz @Anb @Adf @Ag7 @Ake @Af0 @Aeo @Al3 @Ada @Arq @Asc)) (AY (FG @Apf @Aj9 @Anf @An7 @Alu @Abn @Aaa @X1 @Agr @Ae1 @Agi) (EZ @ZJ @Ak9 @Ane @Afz @Yh @Am9 @Ahf @An8 @Ano @Ak1 @Abz @Ae2)) (AY (FG @Aia @ZT @Agm @Afs @Al1 @Agz @Aa9 @SL @Alz @Ajx @Ael) (EZ @Aep @Anm @Adh @Ae6 @Ajm @Aga @Aet @Adx @Xe @ZC @Qf @VR)) (AY (FG @Adv @Acn @Afv @Aj2 @Amo @Ad3 @Afw @Ah3 @Y1 @Vb @Zf) (EZ @W5 @N7 @Ags @Acu @Afl @Af9 @Aef @Aeg @Al4 @Ajr @Alj @Ajl)) (AY (FG @Aoa @Ald @Ajc @Aoy @Aow @Aom @Ami @Aoz @UF @Ag9 @Aku) (EZ @An2 @Ad5 @Amp @Ak2 @Amu @Amq @Aff @Aqx @Agj @Ak3 @On @O5)) (AY (FG @KV @Iz @HT @HB @H5 @My @KI @Oe @Oy @ZS @Y8) (EZ @Z7 @Zo @Abp @Aao @YD @Abw @Ajh @Ai9 @Zi @Aap @Aae @Aay)) (AY (FG @YZ @XL @Ace @Abu @XZ @Avx @Au7 @Avh @Au3 @Asa @Au2) (EZ @Af3 @Ahv @Ago @Agd @Am8 @RoN @Afq @Apx @Ap0 @Wz @Z4 @Agw)) (AY (FG @Aqk @Ap3 @Aph @Abm @Ac6 @ZL @ZD @Ad6 @Auv @exZ @exN) (EZ @Akh @Atq @An6 @Aq7 @Agp @Aok @Ajz @Ary @Ats @Auc @Ac @TU)) (AY (FG @M8 @F3 @LI @Js @CH @not_false_eq_true @true_and @and_true @true_or @or_true @and_self) (EZ @false_and @and_false @neN @neI @neW @not_true_eq_false @Ku @TN @Zw @Kp @SA @Aav)) (AY (FG @D4 @P3 @Ue @Lu @R7 @Le @Im @K2 @GI @FM @GX) (EZ @FA @GE @GK @FD @I6 @GT @F9 @GH @FB @IA @FK @GP)) (AY (FG @ID @Iv @Ll @IY @Mw @Jc @LE @KP @Ju @OE @Mr) (EZ @Jr @KN @Jm @OQ @Jf @Mb @P6 @Ov @Pj @LH @Ow @Ml)) (AY (FG @OR @OI @KF @SF @Ot @Lm @Oz @Ls @SR @KB @Pv) (EZ @Uo @SX @Bool.not_true @Bool.not_false @Bool.and_true @Bool.true_and @Bool.or_true @Bool.true_or @Bool.or_false @Bool.false_or @Bool.false_and @Bool.and_false)) (AY (FG @Bool.false_xor @Bool.xor_false @Bool.true_xor @Bool.xor_true @Bool.not_not @Bool.and_self @Bool.or_self @Int.toNat_natCast @Int.toNat_zero @Nat.add_zero @Nat.zero_add) (EZ @Nat.sub_zero @Int.natCast_zero @Nat.mul_zero @Nat.zero_or @Nat.or_zero @Nat.and_zero @Nat.zero_and @Nat.zero_shiftRight @decide_true @decide_false @Aoh @Ai7)) (AY (FG @Akt @and_assoc @TO @SC @Akd @Amv @Aj8 @Amf @Akq @Ako @Z2) (EZ @YI @Akz @Al2 @Aqt @Apm @Apz @Atp @Asy @Asr @Bool.false_eq_true @Bool.true_eq_false @false_implies)) (AY (FG @true_implies @Aul @Aqd @Avf @Avp @Avm @Aqn @As6 @Air @Nat.le_refl @Int.le_refl) (EZ @fcT @fcF @flN @Avq @Avi @nlz @bTF @bFT @At8 @CM.eq_1 @CM.eq_2 @CM.eq_3)))
variable {M:Seat}
theorem Inv.sim2 {c c':Ctx} {e:Env} {H:Hp} (hI:Inv M c e H) {m z:List Nat} (hm:m.Nodup) (hz:∀ i ∈ z,i ∉ m) {H':Hp} (hH:BC H m z H')
 (hc:(c'=c∧∀ j,j < c.k→m[j]?=some j) ∨ (c'=⟨e.sim H m z,fun b=>∃ id,Ag H' id=true∧(e.sim H m z).ρ id=b,m.length⟩∧∀ i ∈ m,e.D i)):Inv M c' (e.sim H m z) H':=by
 have hp:=Pull.of hI m z;have hblk:∀ j,Ag H' j=true→(e.sim H m z).D j∧Eb (e.sim H m z) j (hget H' j)∧¬ (e.sim H m z).im ((e.sim H m z).ρ j)∧(c.O ((e.sim H m z).ρ j) ∨ c.e0.w.heap.size≤(e.sim H m z).ρ j):=by
  intro j hj;obtain ⟨i,h1,h2,h3⟩:=DC hH j hj;obtain ⟨k1,k2,k3,k4⟩:=hI.blk i h2;have hρ:(e.sim H m z).ρ j=e.ρ i:=by simp [Env.sim,h1]
  refine ⟨⟨i,h1,k1⟩,NT hp hρ h3 k2,?_,?_⟩
  ·rw [hρ];rintro (h | ⟨i',hf,he⟩)
   ·exact k3 h
   ·obtain ⟨f1,f2,_⟩:=FC hf;have:=hI.inj i i' h2 f2 he;subst this;exact hz _ f1 (List.mem_of_getElem? h1)
  ·rw [hρ];exact k4
 have hinj:∀ i j,Ag H' i=true→Ag H' j=true→(e.sim H m z).ρ i=(e.sim H m z).ρ j→i=j:=by
  intro i j hi hj hij;obtain ⟨i',h1,h2,_⟩:=DC hH i hi;obtain ⟨j',h3,h4,_⟩:=DC hH j hj;simp only [Env.sim,h1,h3] at hij;have:=hI.inj i' j' h2 h4 hij;subst this;exact getElem?_nodup hm h1 h3
 have himo:∀ b,(e.sim H m z).im b→c.e0.im b ∨ c.O b ∨ c.e0.w.heap.size≤b:=by
  rintro b (h | ⟨i,hf,rfl⟩)
  ·exact hI.imo b h
  ·exact .inr (hI.blk i (FC hf).2.1).2.2.2
 have himb:∀ b,(e.sim H m z).im b→(∃ cells el fz,(e.sim H m z).w.heap[b]?=some (.cells cells el fz)) ∨ ∃ es ck,(e.sim H m z).w.heap[b]?=some (.map es ck):=by
  rintro b (h | ⟨i,hf,rfl⟩)
  ·exact hI.imb b h
  ·rcases (Bool.or_eq_true _ _).mp hf with hf | hf
   ·obtain ⟨_,cells,el,h1,_⟩:=hp.fz i hf;exact .inl ⟨cells,el,_,h1⟩
   ·obtain ⟨_,h1⟩:=hp.fm i hf;obtain ⟨n,ks,vs,hg⟩:=Uy hf;rw [hg] at h1;obtain ⟨es,ck,h2,_⟩:=h1;exact .inr ⟨es,ck,h2⟩
 have hrb:∀ id,(e.sim H m z).D id→(e.sim H m z).ρ id < (e.sim H m z).w.heap.size:=by
  rintro id ⟨i,h1,h2⟩;simp only [Env.sim,h1];exact hI.rb i h2
 have hgs:GS M (e.sim H m z):=⟨fun g hg =>
  CO hp (show Ay H m z (.imm (Wk g)) (.imm (Wk g)) from V1 H m z g) (hI.gs.1 g hg),fun p hp'=>⟨.inl (hI.gs.2 p hp').1,(hI.gs.2 p hp').2⟩⟩
 rcases hc with ⟨rfl,hlow⟩ | ⟨rfl,hall⟩
 ·refine ⟨hI.ev,hblk,hinj,himo,himb,hrb,fun b hb=>.inl (hI.keep b hb),fun id hid=>?_,hgs,hI.φ,hI.τ⟩;obtain ⟨h1,h2⟩:=hI.low id hid;exact ⟨⟨id,hlow id hid,h1⟩,by simp only [Env.sim,hlow id hid];exact h2⟩
 ·refine ⟨Ev.refl _ _,fun j hj=>⟨(hblk j hj).1,(hblk j hj).2.1,(hblk j hj).2.2.1,.inl ⟨j,hj,rfl⟩⟩,hinj,fun b hb=>.inl hb,himb,hrb,fun b hb=>hb,fun id hid=>⟨?_,rfl⟩,hgs,hI.φ,hI.τ⟩;have hid':id < m.length:=hid;exact ⟨m[id],List.getElem?_eq_getElem hid',hall _ (List.getElem_mem hid')⟩
def EI (i:Nat):V→Bool
 | .ptr j _=>j == i
 | .map j=>j == i
 | .sl j _ _ _ _=>j == i
 | .ifc _ v=>EI i v
 | .imm v=>EI i v
 | .st _ fs=>EI i fs
 | .fcons _ v r=>EI i r || EI i v
 | _=>false
theorem ER {e:Env} {i:Nat}:∀ {v:V} {cs:List Value},R e v cs→EI i v=true→e.D i
 | .ptr j p,cs,h,hi=>by simp only [EI,beq_iff_eq] at hi;subst hi;simp only [R] at h;exact h.1
 | .map j,cs,h,hi=>by simp only [EI,beq_iff_eq] at hi;subst hi;simp only [R] at h;exact h.1
 | .sl j _ _ _ _,cs,h,hi=>by simp only [EI,beq_iff_eq] at hi;subst hi;simp only [R] at h;exact h.1
 | .ifc _ v, cs, h, hi => by
   simp only [R] at h;obtain ⟨x,_,_,h⟩:=h;split at h
   ·obtain ⟨c,_,h⟩:=h;exact ER h hi
   ·exact ER h hi
 | .imm v, cs, h, hi => by
   simp only [R] at h;obtain ⟨_,_,_,_,_,_,_,_,_,h⟩:=h;exact ER h hi
 | .st _ fs,cs,h,hi=>by simp only [R] at h;exact ER h.2.2 hi
 | .fcons _ v r, cs, h, hi => by
   simp only [R] at h;simp only [EI,Bool.or_eq_true] at hi;exact hi.elim (ER h.2.2.2.2) (ER h.2.2.2.1)
 | .junk,_,_,hi | .int ..,_,_,hi | .bool _,_,_,hi | .str _,_,_,hi | .nilp,_,_,hi | .nils,_,_,hi | .lst ..,_,_,hi | .nilm,_,_,hi | .nilf,_,_,hi | .fn ..,_,_,hi | .nili,_,_,hi | .ar ..,_,_,hi | .fnil,_,_,hi | .tup _,_,_,hi | .mp ..,_,_,hi | .fm ..,_,_,hi=>by simp [EI] at hi
def De (us:List V) (i:Nat):Bool:=us.any fun v=>match v with | .ptr j _=>j == i | .map j=>j == i | .sl j _ _ _ _=>j == i | .imm w=>EI i w | _=>false
theorem Aai {e:Env} {us:List V} {vs:Array Value} (h:Rc e us vs) {i:Nat} (hi:De us i=true):e.D i:=by
 unfold De at hi;rw [List.any_eq_true] at hi;obtain ⟨v,hv,hvi⟩:=hi;obtain ⟨t,ht,rfl⟩:=List.getElem_of_mem hv;have:=h.2 t;rw [show us.getD t .junk=us[t] by simp [List.getD,ht]] at this;generalize us[t]=v at *
 cases v <;> simp only [Bool.false_eq_true,beq_iff_eq] at hvi;case imm w =>
  simp only [RV,RS,V.isAgg,R] at this;obtain ⟨_,_,_,_,_,_,_,_,_,h⟩:=this;exact ER h hvi
 all_goals (subst hvi;simp only [RV,RS,V.isAgg,R] at this;exact this.1)
def HK (l:List Nat) (H:Hp) (i:Nat):Bool:=l.any fun p=>Ag H p && (hget H p).solid && EI i (hget H p)
theorem Alc {c:Ctx} {e:Env} {l:List Nat} {H:Hp} (hI:Inv M c e H) {i:Nat} (hi:HK l H i=true):e.D i:=by
 unfold HK at hi;rw [List.any_eq_true] at hi;obtain ⟨p,_,hp⟩:=hi;simp only [Bool.and_eq_true] at hp;obtain ⟨_,_,_,_,hR⟩:=hI.cells hp.1.1 hp.1.2;exact ER hR hp.2
theorem HC {f:Nat} {us:List V} {H:Hp} {n:Nat} {K:V→Hp→Prop} {us0:List V} {H0:Hp} {k:Nat} {Q:V→Hp→Nat→Prop} (hr:Ae M f us0 H0 k Q) (L:Prop) [Decidable L] (m m0 z:List Nat) (h0:∀ id i,Ag H0 id=true→m[id]?=some i→i ∈ m0) (h0m:∀ i ∈ m0,i ∈ m)
 (hm:m.Nodup) (hz:∀ i ∈ z,i ∉ m) (hk:m.length=k) (hall0:∀ i ∈ m0,Ag H i=true) (hall:∀ i ∈ m,Ag H i=true ∨ De us i=true ∨ HK m0 H i=true) (hus:Bp H m z us0 us) (hH:BC H m z H0)
 (hK:∀ v H' k',Q v H' k'→(k'≤k + 16∧(L→AF v∧Vf H'))∧K (v.ren (B8 m n k')) (AU (B8 m n k') H' ++ AB H (if L then m0 else m0 ++ z))):Bg M f us H n K:=by
 intro c e vs hI hD hcn ⟨hvs,hargs⟩;subst hk;have hp:=Pull.of hI m z;have hmD:∀ i ∈ m,e.D i:=fun i hi=>(hall i hi).elim (fun h=>(hI.blk i h).1) (fun h=>h.elim (Aai ⟨hvs,hargs⟩) (Alc hI));have hI2:Inv M ⟨e.sim H m z,fun b=>∃ id,Ag H0 id=true∧(e.sim H m z).ρ id=b,m.length⟩ (e.sim H m z) H0:=hI.sim2 hm hz hH (.inr ⟨rfl,hmD⟩);have hmn:∀ i ∈ m,i < n:=fun i hi=>Nat.lt_of_not_le (fun h=>hD i h (hmD i hi));refine (hr (e.sim H m z) vs hI2 ?_ ⟨hvs.trans (I9 hus).symm,fun t=>OG hp (Ib hus t) (hargs t)⟩).mono ?_
 ·rintro id hid ⟨i,h1,_⟩;have:=(List.getElem?_eq_some_iff.1 h1).1;omega
 rintro en w' ⟨x,v,e2,H',k',rfl,rfl,hI',hv,hD',hkk,hQ⟩;obtain ⟨⟨hk16,hL⟩,hKK⟩:=hK v H' k' hQ;have hO:∀ b,(∃ id,Ag H0 id=true∧(e.sim H m z).ρ id=b)→∃ i ∈ m0,e.ρ i=b:=by
  rintro b ⟨id,h1,h2⟩;obtain ⟨i,k1,k2,_⟩:=DC hH id h1;exact ⟨i,h0 id i h1 k1,by simpa [Env.sim,k1] using h2⟩
 have hsame:∀ b,b < e.w.heap.size→(∀ i ∈ m0,e.ρ i ≠ b)→e2.w.heap[b]?=e.w.heap[b]?:=fun b hb hn =>
  hI'.ev.frame b hb (fun ho=>by obtain ⟨i,h1,h2⟩:=hO b ho;exact hn i h1 h2)
 have hsize:e.w.heap.size≤e2.w.heap.size:=hI'.ev.size
 let e' : Env := { ρ := fun i => if n ≤ i then e2.ρ (m.length + (i - n)) else e.ρ i
                   D:=fun i=>e.D i ∨ (n≤i∧e2.D (m.length + (i - n)))
                   im:=fun b=>if L then e.im b else e2.im b
                   w:=e2.w,φ:=e2.φ,τ:=e2.τ }
 have hφ:e2.φ=e.φ:=hI'.φ.trans hI.φ.symm;have hτ:e2.τ=e.τ:=hI'.τ.trans hI.τ.symm;have him2:∀ b,e.im b→e2.im b:=fun b hb=>hI'.keep b (.inl hb);have him':∀ b,e.im b→e'.im b:=fun b hb=>by
  show if L then _ else _;split
  ·exact hb
  ·exact him2 b hb
 have him2':∀ b,e'.im b→e2.im b:=fun b hb=>by
  have hb:if L then e.im b else e2.im b:=hb;split at hb
  ·exact him2 b hb
  ·exact hb
 have hρold:∀ i,e.D i→e'.ρ i=e.ρ i:=fun i hi=>by
  show (if n≤i then _ else _)=_;rw [if_neg (fun h=>hD i h hi)]
 have hle:e.le e':=by
  refine ⟨fun i hi=>⟨.inl hi,hρold i hi⟩,fun b hb=>⟨him' b hb,fun cc el fz hc=>⟨el,fz,?_⟩,fun es ck hc=>?_⟩,hI'.ev.bs,hφ,hτ⟩
  ·show e2.w.heap[b]?=_;rw [hsame b (hI.imlt b hb) (fun i hi he=>(hI.blk i (hall0 i hi)).2.2.1 (he ▸ hb))];exact hc
  ·show e2.w.heap[b]?=_;rw [hsame b (hI.imlt b hb) (fun i hi he=>(hI.blk i (hall0 i hi)).2.2.1 (he ▸ hb))];exact hc
 have hpush:Push L (B8 m n k') e2 e':=by
  refine ⟨fun j hj=>?_,fun hnl b hb=>?_,rfl,rfl,rfl⟩
  ·have hjk:j < k':=Nat.lt_of_not_le (fun h=>hD' j h hj);have hg:=Qh (n:=n) hkk j hjk;by_cases hjm:j < m.length
   ·rw [dif_pos hjm] at hg;have hmj:=hmD m[j] (List.getElem_mem hjm);refine ⟨m[j],hg,.inl hmj,?_⟩;rw [hρold _ hmj];have:=(hI'.low j hjm).2;rw [this];simp [Env.sim,List.getElem?_eq_getElem hjm]
   ·rw [dif_neg hjm] at hg;have e1:m.length + (n + (j - m.length) - n)=j:=Aa;refine ⟨_,hg,.inr ⟨by omega,by rw [e1];exact hj⟩,?_⟩;show (if _ then _ else _)=_;rw [if_pos Aa,e1]
  ·show if L then _ else _;rw [if_neg hnl];exact hb
 have hnd:(B8 m n k').Nodup:=Mg hm hmn;have hnew:∀ b,(∃ id,Ag H0 id=true∧(e.sim H m z).ρ id=b) ∨ (e.sim H m z).w.heap.size≤b→c.O b ∨ c.e0.w.heap.size≤b:=by
  rintro b (h | h)
  ·obtain ⟨i,h1,rfl⟩:=hO b h;exact (hI.blk i (hall0 i h1)).2.2.2
  ·have h:e.w.heap.size≤b:=h;have:=hI.ev.size;exact .inr Aa
 have hold:∀ id,Ag (AB H (if L then m0 else m0 ++ z)) id=true→Ag H id=true∧id ∉ m0∧(¬ L→id ∉ z)∧hget (AB H (if L then m0 else m0 ++ z)) id=hget H id:=by
  intro id hid;rw [HG] at hid;simp only [Lb0,List.contains_eq_mem,decide_eq_false_iff_not] at hid;refine ⟨hid.1,?_,?_,H9 _ _ _ hid.2⟩
  ·intro h';apply hid.2;split
   ·exact h'
   ·exact List.mem_append_left _ h'
  ·intro hnl h';apply hid.2;rw [if_neg hnl];exact List.mem_append_right _ h'
 have hrenb:∀ id,Ag (AU (B8 m n k') H') id=true→∃ j,Ag H' j=true∧e'.D id∧e'.ρ id=e2.ρ j∧(B8 m n k')[j]?=some id∧hget (AU (B8 m n k') H') id=(hget H' j).ren (B8 m n k'):=by
  intro id hid;obtain ⟨j,h1,h2,h3⟩:=IB hnd hid;obtain ⟨i,k1,k2,k3⟩:=hpush.D j (hI'.blk j h2).1;rw [h1] at k1;simp only [Option.some.injEq] at k1;subst k1;exact ⟨j,h2,k2,k3,h1,h3⟩
 refine ⟨x,v.ren (B8 m n k'),e',AU (B8 m n k') H' ++ AB H (if L then m0 else m0 ++ z),rfl,rfl,hle,?_,U1 hpush (fun hl=>(hL hl).1) hv,?_,hKK⟩
 ·have hblk:∀ id,Ag (AU (B8 m n k') H' ++ AB H (if L then m0 else m0 ++ z)) id=true→(Ag (AU (B8 m n k') H') id=true∧hget (AU (B8 m n k') H' ++ AB H (if L then m0 else m0 ++ z)) id=hget (AU (B8 m n k') H') id) ∨ (Ag (AB H (if L then m0 else m0 ++ z)) id=true∧hget (AU (B8 m n k') H' ++ AB H (if L then m0 else m0 ++ z)) id=hget (AB H (if L then m0 else m0 ++ z)) id):=by
   intro id hid;rw [Bx] at hid;cases hr':Ag (AU (B8 m n k') H') id with
   | true=>exact .inl ⟨rfl,Dk hr'⟩
   | false=>rw [hr',Bool.false_or] at hid;exact .inr ⟨hid,Bk hr'⟩
  have hsep:∀ i j,Ag H i=true→i ∉ m0→Ag H' j=true→e.ρ i ≠ e2.ρ j:=by
   intro i j hi him hj he;rcases (hI'.blk j hj).2.2.2 with h | h
   ·obtain ⟨i',h1,h2⟩:=hO _ h;exact him (by rw [hI.inj i i' hi (hall0 i' h1) (he.trans h2.symm)];exact h1)
   ·have h:e.w.heap.size≤e2.ρ j:=h;have:=hI.rb i (hI.blk i hi).1;omega
  refine ⟨?_,?_,?_,?_,?_,?_,fun b hb=>him' b (hI.keep b hb),?_,hI.gs.mono hle,hI'.φ,hI'.τ⟩
  ·exact hI.ev.trans hI'.ev (fun b hb=>by
    obtain ⟨i,h1,rfl⟩:=hO b hb;rcases (hI.blk i (hall0 i h1)).2.2.2 with h | h
    ·exact .inl h
    ·exact .inr h)
  ·intro id hid;rcases hblk id hid with ⟨h1,h2⟩ | ⟨h1,h2⟩
   ·obtain ⟨j,k1,k2,k3,k4,k5⟩:=hrenb id h1;obtain ⟨q1,q2,q3,q4⟩:=hI'.blk j k1;rw [h2,k5,k3];exact ⟨k2,MA hpush k3 (fun hl=>(hL hl).2 j k1) q2,fun h=>q3 (him2' _ h),hnew _ q4⟩
   ·obtain ⟨k1,k2,k3,k4⟩:=hold id h1;obtain ⟨q1,q2,q3,q4⟩:=hI.blk id k1;have hne:∀ i ∈ m0,e.ρ i ≠ e.ρ id:=fun i hi he=>k2 (by rw [← hI.inj i id (hall0 i hi) k1 he];exact hi);rw [h2,k4,hρold id q1];refine ⟨.inl q1,C9 hle q1 (hsame _ (hI.rb id q1) hne) q2,?_,q4⟩;intro h;have h:if L then e.im (e.ρ id) else e2.im (e.ρ id):=h;split at h
    ·exact q3 h
    ·rename_i hnl;rcases hI'.imo _ h with h | h | h
     ·rcases h with h | ⟨i,hf,he⟩
      ·exact q3 h
      ·obtain ⟨f1,f2,_⟩:=FC hf;rw [hI.inj id i k1 f2 he] at k3;exact k3 hnl f1
     ·obtain ⟨i,h1,h2⟩:=hO _ h;exact hne i h1 h2
     ·have h:e.w.heap.size≤e.ρ id:=h;have:=hI.rb id q1;omega
  ·intro i j hi hj hij;rcases hblk i hi with ⟨h1,_⟩ | ⟨h1,_⟩ <;> rcases hblk j hj with ⟨h2,_⟩ | ⟨h2,_⟩
   ·obtain ⟨a,a1,_,a3,a4,_⟩:=hrenb i h1;obtain ⟨b,b1,_,b3,b4,_⟩:=hrenb j h2;rw [a3,b3] at hij;have:=hI'.inj a b a1 b1 hij;subst this;rw [a4] at b4;simpa using b4
   ·obtain ⟨a,a1,_,a3,_⟩:=hrenb i h1;obtain ⟨b1,b2,_⟩:=hold j h2;rw [a3,hρold j (hI.blk j b1).1] at hij;exact absurd hij.symm (hsep j a b1 b2 a1)
   ·obtain ⟨a,a1,_,a3,_⟩:=hrenb j h2;obtain ⟨b1,b2,_⟩:=hold i h1;rw [a3,hρold i (hI.blk i b1).1] at hij;exact absurd hij (hsep i a b1 b2 a1)
   ·obtain ⟨b1,_⟩:=hold i h1;obtain ⟨b2,_⟩:=hold j h2;rw [hρold i (hI.blk i b1).1,hρold j (hI.blk j b2).1] at hij;exact hI.inj i j b1 b2 hij
  ·intro b hb;have hb:if L then e.im b else e2.im b:=hb;split at hb
   ·exact hI.imo b hb
   ·rcases hI'.imo b hb with h | h | h
    ·rcases h with h | ⟨i,hf,rfl⟩
     ·exact hI.imo b h
     ·exact .inr (hI.blk i (FC hf).2.1).2.2.2
    ·exact .inr (hnew b (.inl h))
    ·exact .inr (hnew b (.inr h))
  ·intro b hb;exact hI'.imb b (him2' b hb)
  ·intro id hid;rcases hid with hid | ⟨h1,h2⟩
   ·rw [hρold id hid];have:=hI.rb id hid;show e.ρ id < e2.w.heap.size;omega
   ·show (if n≤id then _ else _) < _;rw [if_pos h1];exact hI'.rb _ h2
  ·intro id hid;obtain ⟨h1,h2⟩:=hI.low id hid;exact ⟨.inl h1,(hρold id h1).trans h2⟩
 ·rintro id (h | ⟨h1,h2⟩)
  ·exact .inl h
  ·refine .inr ⟨h1,?_⟩;have:=Nat.lt_of_not_le (fun h=>hD' _ h h2);omega
theorem Ts {f:Nat} {us:List V} {H:Hp} {n:Nat} {K:V→Hp→Prop} {us0:List V} {H0:Hp} {k:Nat} {Q:V→Hp→Nat→Prop} (hr:Ae M f us0 H0 k Q) (L:Prop) [Decidable L] (m m0 z:List Nat) (h0:∀ id i,Ag H0 id=true→m[id]?=some i→i ∈ m0) (h0m:∀ i ∈ m0,i ∈ m)
 (hm:m.Nodup) (hz:∀ i ∈ z,i ∉ m) (hk:m.length=k) (hall0:∀ i ∈ m0,Ag H i=true) (hall:∀ i ∈ m,Ag H i=true ∨ De us i=true) (hus:Bp H m z us0 us) (hH:BC H m z H0)
 (hK:∀ v H' k',Q v H' k'→(k'≤k + 16∧(L→AF v∧Vf H'))∧K (v.ren (B8 m n k')) (AU (B8 m n k') H' ++ AB H (if L then m0 else m0 ++ z))):Bg M f us H n K :=
 HC hr L m m0 z h0 h0m hm hz hk hall0 (fun i hi=>(hall i hi).imp_right .inl) hus hH hK
variable {M:Seat}
def ids:Hp→List Nat
 | []=>[]
 | (i,_) :: r=>i :: ids r
def CC:Hp→List Nat→List Nat
 | [],_=>[]
 | (i,_) :: r,m=>if m.contains i then CC r m else i :: CC r m
theorem Ie (m:List Nat):∀ (H:Hp),∀ i ∈ CC H m,i ∉ m
 | [],_,h=>by cases h
 | (j, _) :: r, i, h => by
   simp only [CC] at h;split at h
   ·exact Ie m r i h
   ·rename_i hj;rcases List.mem_cons.1 h with rfl | h
    ·intro hm;exact hj (by simpa [List.contains_iff_mem] using hm)
    ·exact Ie m r i h
theorem K0 (j:Nat):∀ H:Hp,(ids H).contains j=Ag H j
 | []=>rfl
 | (i, _) :: r => by
   simp only [ids,Ag,List.contains_cons,K0 j r];rw [Bool.beq_comm]
theorem Au1 (H:Hp) (i:Nat):N5 H (ids H) i=(Ag H i && (hget H i).solid):=by
 simp only [N5,K0,Bool.and_self]
theorem M7 (m:List Nat) (j:Nat):∀ H:Hp,(CC H m).contains j=(Ag H j && !m.contains j)
 | []=>by simp [CC,Ag]
 | (i, _) :: r => by
   simp only [CC];by_cases h:m.contains i=true
   ·rw [if_pos h,M7 m j r];simp only [Ag];by_cases hij:i=j
    ·subst hij;rw [h];simp
    ·have:(i == j)=false:=by simpa using hij
     rw [this,Bool.false_or]
   ·rw [if_neg h];simp only [List.contains_cons,M7 m j r,Ag];by_cases hij:i=j
    ·subst hij;rw [show m.contains i=false by simpa using h];simp
    ·have h1:(i == j)=false:=by simpa using hij
     have h2:(j == i)=false:=by simp;exact fun h=>hij h.symm
     rw [h1,h2];simp
theorem Auo (H:Hp) (m:List Nat) (i:Nat):N5 H (CC H m) i=((Ag H i && !m.contains i) && (hget H i).solid):=by
 simp only [N5,M7];cases Ag H i <;> simp
def AK:List Nat→Nat→Nat→List Nat
 | [],_,0=>[]
 | [],n,k + 1=>n :: AK [] (n + 1) k
 | _ :: _,_,0=>[]
 | a :: m,n,k + 1=>a :: AK m n k
theorem Rm:∀ (k n:Nat),(List.range k).map (fun i=>n + i)=AK [] n k
 | 0,_=>rfl
 | k + 1, n => by
   rw [List.range_succ_eq_map,List.map_cons,List.map_map,AK,← Rm k (n + 1)];simp only [Nat.add_zero,List.cons.injEq,true_and];apply List.map_congr_left;intro i _;simp only [Function.comp];omega
theorem Jd:∀ (m:List Nat) (n k:Nat),m.length≤k→B8 m n k=AK m n k
 | [],n,k,_=>by simp only [B8,List.length_nil,Nat.sub_zero,List.nil_append];exact Rm k n
 | a :: m,n,0,h=>by simp at h
 | a :: m, n, k + 1, h => by
   rw [AK,← Jd m n k MY];simp only [B8,List.length_cons,List.cons_append,Nat.add_sub_add_right]
def C2:Hp→Prop
 | []=>True
 | (_,v) :: r=>AF v∧C2 r
theorem C2.H:∀ {H:Hp},C2 H→Vf H
 | [],_,id,h=>by simp [Ag] at h
 | (i, v) :: r, hn, id, h => by
   simp only [C2] at hn;simp only [hget];split
   ·exact hn.1
   ·rename_i hi;exact C2.H hn.2 id (by simpa [Ag,hi] using h)
theorem Kv {f:Nat} {us us0:List V} {H:Hp} {n:Nat} {K:V→Hp→Prop} {v:V} (hr:Ae M f us0 [] 0 (Q3 v [] 0)) (hus:Bp H [] (ids H) us0 us) (hv:v.ren (B8 [] n 0)=v) (hn:AF v) (hK:K v H):Bg M f us H n K :=
 TT (ids H) hr hus hv hn hK
theorem Of {f:Nat} {us us0:List V} {H H0 Hn:Hp} {n k kn:Nat} {K:V→Hp→Prop} {v:V} (m:List Nat) (hr:Ae M f us0 H0 k (Q3 v Hn kn))
 (hm:(decide m.Nodup && decide (m.length=k) && decide (k≤kn) && decide (kn≤k + 16))=true) (hall:(m.all fun i=>Ag H i)=true) (hus:Bp H m (CC H m) us0 us) (hH:BC H m (CC H m) H0) (hv:AF v) (hn:C2 Hn)
 (hK:K (v.ren (AK m n kn)) (AU (AK m n kn) Hn ++ AB H m)):Bg M f us H n K:=by
 simp only [Bool.and_eq_true,decide_eq_true_eq] at hm;obtain ⟨⟨⟨h1,h2⟩,h3⟩,h4⟩:=hm;refine Cq hr True m (CC H m) h1 (Ie m H) h2 (by simpa using hall) hus hH ?_;rintro v' H' k' ⟨rfl,rfl,rfl⟩;refine ⟨⟨h4,fun _=>⟨hv,hn.H⟩⟩,?_⟩;rw [Jd m n k' Aa,if_pos trivial];exact hK
theorem Pb {f:Nat} {us us0:List V} {H Hn:Hp} {n kn:Nat} {K:V→Hp→Prop} {v:V} (hr:Ae M f us0 [] 0 (Q3 v Hn kn))
 (hk:decide (kn≤16)=true) (hus:Bp H [] (ids H) us0 us) (hv:AF v) (hn:C2 Hn)
 (hK:K (v.ren (AK [] n kn)) (AU (AK [] n kn) Hn ++ H)):Bg M f us H n K:=by
 refine Cq hr True [] (ids H) List.nodup_nil B9 rfl B9 hus trivial ?_;rintro v' H' k' ⟨rfl,rfl,rfl⟩;refine ⟨⟨by have:=of_decide_eq_true hk;omega,fun _=>⟨hv,hn.H⟩⟩,?_⟩;rw [Jd [] n k' B9,if_pos trivial];exact hK
theorem UJ {f:Nat} {us us0:List V} {H H0 Hn:Hp} {n k kn:Nat} {K:V→Hp→Prop} {v:V} (m m0:List Nat) (hr:Ae M f us0 H0 k (Q3 v Hn kn))
 (h0:((ids H0).all fun id=>match m[id]? with | some i=>m0.contains i | none=>true)=true) (h0m:(m0.all fun i=>m.contains i)=true)
 (hm:(decide m.Nodup && decide (m.length=k) && decide (k≤kn) && decide (kn≤k + 16))=true) (hall:(m.all fun i=>Ag H i || De us i)=true) (hall0:(m0.all fun i=>Ag H i)=true) (hus:Bp H m (CC H m) us0 us) (hH:BC H m (CC H m) H0) (hv:AF v) (hn:C2 Hn)
 (hK:K (v.ren (AK m n kn)) (AU (AK m n kn) Hn ++ AB H m0)):Bg M f us H n K:=by
 simp only [Bool.and_eq_true,decide_eq_true_eq] at hm;obtain ⟨⟨⟨h1,h2⟩,h3⟩,h4⟩:=hm;refine Ts hr True m m0 (CC H m) (fun id i hid hi=>?_) (fun i hi=>?_) h1 (Ie m H) h2 (by simpa using hall0) (by simpa using hall) hus hH ?_
 ·rw [List.all_eq_true] at h0;have hmem:id ∈ ids H0:=by
   have:=K0 id H0;rw [hid] at this;simpa [List.contains_iff_mem] using this
  have:=h0 id hmem;rw [hi] at this;simpa using this
 ·rw [List.all_eq_true] at h0m;simpa using h0m i hi
 ·rintro v' H' k' ⟨rfl,rfl,rfl⟩;refine ⟨⟨h4,fun _=>⟨hv,hn.H⟩⟩,?_⟩;rw [Jd m n k' Aa,if_pos trivial];exact hK
theorem Uu {f:Nat} {us us0:List V} {H H0 Hn:Hp} {n k kn:Nat} {K:V→Hp→Prop} {v:V} (m m0:List Nat) (hr:Ae M f us0 H0 k (Q3 v Hn kn))
 (h0:((ids H0).all fun id=>match m[id]? with | some i=>m0.contains i | none=>true)=true) (h0m:(m0.all fun i=>m.contains i)=true)
 (hm:(decide m.Nodup && decide (m.length=k) && decide (k≤kn) && decide (kn≤k + 16))=true) (hall:(m.all fun i=>Ag H i || (HK m0 H i || De us i))=true) (hall0:(m0.all fun i=>Ag H i)=true) (hus:Bp H m [] us0 us) (hH:BC H m [] H0)
 (hK:K (v.ren (AK m n kn)) (AU (AK m n kn) Hn ++ AB H m0)):Bg M f us H n K:=by
 simp only [Bool.and_eq_true,decide_eq_true_eq] at hm;obtain ⟨⟨⟨h1,h2⟩,h3⟩,h4⟩:=hm
 refine HC hr False m m0 [] (fun id i hid hi=>?_) (fun i hi=>?_) h1 B9 h2 (by simpa using hall0) (fun i hi=>by
  have:=List.all_eq_true.1 hall i hi;simp only [Bool.or_eq_true] at this
  exact this.elim .inl (fun h=>.inr h.symm)) hus hH ?_
 ·rw [List.all_eq_true] at h0;have hmem:id ∈ ids H0:=by
   have:=K0 id H0;rw [hid] at this;simpa [List.contains_iff_mem] using this
  have:=h0 id hmem;rw [hi] at this;simpa using this
 ·rw [List.all_eq_true] at h0m;simpa using h0m i hi
 ·rintro v' H' k' ⟨rfl,rfl,rfl⟩;refine ⟨⟨h4,fun h=>h.elim⟩,?_⟩;rw [Jd m n k' Aa,if_neg id,List.append_nil];exact hK
theorem Abj {f:Nat} {us us0:List V} {H:Hp} {n:Nat} {C:V→Hp→Prop} {v:V} (hr:Ae M f us0 [] 0 (Q3 v [] 0)) (hus:Bp H [] (ids H) us0 us) (hv:v.ren (B8 [] n 0)=v) (hn:AF v) (hC:C v H):Gk M f us H n C :=
 ⟨v,H,Kv hr hus hv hn ⟨rfl,rfl⟩,hC⟩
theorem Ajk {f:Nat} {us us0:List V} {H Hn:Hp} {n kn:Nat} {C:V→Hp→Prop} {v:V} (hr:Ae M f us0 [] 0 (Q3 v Hn kn))
 (hk:decide (kn≤16)=true) (hus:Bp H [] (ids H) us0 us) (hv:AF v) (hn:C2 Hn)
 (hC:C (v.ren (AK [] n kn)) (AU (AK [] n kn) Hn ++ H)):Gk M f us H n C :=
 ⟨_,_,Pb hr hk hus hv hn ⟨rfl,rfl⟩,hC⟩
theorem Ye {f:Nat} {us us0:List V} {H H0 Hn:Hp} {n k kn:Nat} {C:V→Hp→Prop} {v:V} (m:List Nat) (hr:Ae M f us0 H0 k (Q3 v Hn kn))
 (hm:(decide m.Nodup && decide (m.length=k) && decide (k≤kn) && decide (kn≤k + 16))=true) (hall:(m.all fun i=>Ag H i)=true) (hus:Bp H m (CC H m) us0 us) (hH:BC H m (CC H m) H0) (hv:AF v) (hn:C2 Hn)
 (hC:C (v.ren (AK m n kn)) (AU (AK m n kn) Hn ++ AB H m)):Gk M f us H n C :=
 ⟨_,_,Of m hr hm hall hus hH hv hn ⟨rfl,rfl⟩,hC⟩
theorem Al7 {f:Nat} {us us0:List V} {H H0 Hn:Hp} {n k kn:Nat} {C:V→Hp→Prop} {v:V} (m m0:List Nat) (hr:Ae M f us0 H0 k (Q3 v Hn kn))
 (h0:((ids H0).all fun id=>match m[id]? with | some i=>m0.contains i | none=>true)=true) (h0m:(m0.all fun i=>m.contains i)=true)
 (hm:(decide m.Nodup && decide (m.length=k) && decide (k≤kn) && decide (kn≤k + 16))=true) (hall:(m.all fun i=>Ag H i || De us i)=true) (hall0:(m0.all fun i=>Ag H i)=true) (hus:Bp H m (CC H m) us0 us) (hH:BC H m (CC H m) H0) (hv:AF v) (hn:C2 Hn)
 (hC:C (v.ren (AK m n kn)) (AU (AK m n kn) Hn ++ AB H m0)):Gk M f us H n C :=
 ⟨_,_,UJ m m0 hr h0 h0m hm hall hall0 hus hH hv hn ⟨rfl,rfl⟩,hC⟩
theorem Ajw {f:Nat} {us us0:List V} {H H0 Hn:Hp} {n k kn:Nat} {C:V→Hp→Prop} {v:V} (m m0:List Nat) (hr:Ae M f us0 H0 k (Q3 v Hn kn))
 (h0:((ids H0).all fun id=>match m[id]? with | some i=>m0.contains i | none=>true)=true) (h0m:(m0.all fun i=>m.contains i)=true)
 (hm:(decide m.Nodup && decide (m.length=k) && decide (k≤kn) && decide (kn≤k + 16))=true) (hall:(m.all fun i=>Ag H i || (HK m0 H i || De us i))=true) (hall0:(m0.all fun i=>Ag H i)=true) (hus:Bp H m [] us0 us) (hH:BC H m [] H0)
 (hC:C (v.ren (AK m n kn)) (AU (AK m n kn) Hn ++ AB H m0)):Gk M f us H n C :=
 ⟨_,_,Uu m m0 hr h0 h0m hm hall hall0 hus hH ⟨rfl,rfl⟩,hC⟩
theorem Aq1 {f:Nat} {v:V} {us:List V} {H:Hp} {n:Nat} {K:V→Hp→Prop} (hf:Gf M f) (hv:(v.solid && !v.isAgg)=true) (h:Bg M f (us ++ [v]) H n K):Fl M (.fn f (.st 1 (.fcons 0 v .fnil))) us H n K:=by
 refine .inl ⟨⟨hf,?_⟩,h⟩;simpa [V.fhas,V.fget] using hv
theorem R3 {f:Nat} {v:V} {us:List V} {H:Hp} {n:Nat} {K:V→Hp→Prop} (hf:Gf M f) (hv:(v.solid && !v.isAgg)=true) (h:Bg M f (v :: us) H n K):Fl M (.fn (f + 2000000) (.st 1 (.fcons 0 v .fnil))) us H n K:=by
 refine .inr ⟨by omega,⟨by rw [Nat.add_sub_cancel];exact hf,?_⟩,?_⟩
 ·simpa [V.fhas,V.fget] using hv
 ·rw [Nat.add_sub_cancel];exact h
theorem Aqo {f:Nat} {v:V} {us us0:List V} {H:Hp} {n:Nat} {C:V→Hp→Prop} {r:V} (hf:Gf M f) (hv:(v.solid && !v.isAgg)=true) (hr:Ae M f us0 [] 0 (fun r' H' k'=>r'=r∧H'=[]∧k'=0)) (hus:Bp H [] (ids H) us0 (us ++ [v])) (hv2:r.ren (B8 [] n 0)=r) (hn:AF r) (hC:C r H):VX M (.fn f (.st 1 (.fcons 0 v .fnil))) us H n C :=
 ⟨r,H,Aq1 hf hv (Kv hr hus hv2 hn ⟨rfl,rfl⟩),hC⟩
def Kf (v:V) (i:Nat) (r:V):V:=match v with | .junk=>r | v=>.fcons i v r
def Ho (v:V):Prop:=match v with | .junk=>True | v=>v.solid=true
theorem Ao3 (A:List V) (H:Hp) (r:RVr) (rs:List RVr) (i:Nat):H3 A H (r :: rs) i=Kf (Fe A H r) i (H3 A H rs (i + 1)):=by
 simp only [H3,Kf];split <;> simp_all
theorem Ap9 (A:List V) (H:Hp) (i:Nat):H3 A H [] i = .fnil:=rfl
theorem Atv (A:List V) (H:Hp) (r:RVr) (rs:List RVr):IL A H (r :: rs)=(Ho (Fe A H r)∧IL A H rs):=by
 simp only [IL,Ho];split <;> simp_all
theorem Arj (A:List V) (H:Hp):IL A H []=True:=rfl
theorem Ag8 (k:IntKind) (n:Int) (ix:Nat) (r:V):Kf (.int k n) ix r = .fcons ix (.int k n) r:=rfl
theorem Agh (k:IntKind) (n:Int):Ho (.int k n)=True:=Gv
theorem Aar (b:Bool) (ix:Nat) (r:V):Kf (.bool b) ix r = .fcons ix (.bool b) r:=rfl
theorem Aaq (b:Bool):Ho (.bool b)=True:=Gv
theorem Aen (s:ByteArray) (ix:Nat) (r:V):Kf (.str s) ix r = .fcons ix (.str s) r:=rfl
theorem Aez (s:ByteArray):Ho (.str s)=True:=Gv
theorem ZO  (ix:Nat) (r:V):Kf (.nilp) ix r = .fcons ix (.nilp) r:=rfl
theorem XO :Ho (.nilp)=True:=Gv
theorem Afc (i:Nat) (p:List Stp) (ix:Nat) (r:V):Kf (.ptr i p) ix r = .fcons ix (.ptr i p) r:=rfl
theorem Ad9 (i:Nat) (p:List Stp):Ho (.ptr i p)=True:=Gv
theorem XG  (ix:Nat) (r:V):Kf (.nils) ix r = .fcons ix (.nils) r:=rfl
theorem Aag :Ho (.nils)=True:=Gv
theorem Aoi (i:Nat) (p:List Stp) (o n sz:Nat) (ix:Nat) (r:V):Kf (.sl i p o n sz) ix r = .fcons ix (.sl i p o n sz) r:=rfl
theorem Amz (i:Nat) (p:List Stp) (o n sz:Nat):Ho (.sl i p o n sz)=True:=Gv
theorem Agx (sz n:Nat) (f:Nat→V) (ix:Nat) (r:V):Kf (.lst sz n f) ix r = .fcons ix (.lst sz n f) r:=rfl
theorem Ah5 (sz n:Nat) (f:Nat→V):Ho (.lst sz n f)=True:=Gv
theorem Zp  (ix:Nat) (r:V):Kf (.nili) ix r = .fcons ix (.nili) r:=rfl
theorem Z5 :Ho (.nili)=True:=Gv
theorem Adu (t:Nat) (v:V) (ix:Nat) (r:V):Kf (.ifc t v) ix r = .fcons ix (.ifc t v) r:=rfl
theorem Ah6 (t:Nat) (v:V):Ho (.ifc t v)=True:=Gv
theorem Akp (n:Nat) (v:V) (ix:Nat) (r:V):Kf (.st n v) ix r = .fcons ix (.st n v) r:=rfl
theorem Ams (n:Nat) (v:V):Ho (.st n v)=True:=Gv
theorem Anl (sz n:Nat) (f:Nat→V) (ix:Nat) (r:V):Kf (.ar sz n f) ix r = .fcons ix (.ar sz n f) r:=rfl
theorem Ajg (sz n:Nat) (f:Nat→V):Ho (.ar sz n f)=True:=Gv
theorem Aec (v:V) (ix:Nat) (r:V):Kf (.imm v) ix r = .fcons ix (.imm v) r:=rfl
theorem Aem (v:V):Ho (.imm v)=True:=Gv
theorem Aib (i:Nat) (ix:Nat) (r:V):Kf (.map i) ix r = .fcons ix (.map i) r:=rfl
theorem Ae3 (i:Nat):Ho (.map i)=True:=Gv
theorem Acw  (ix:Nat) (r:V):Kf (.nilm) ix r = .fcons ix (.nilm) r:=rfl
theorem Aba :Ho (.nilm)=True:=Gv
theorem Am5 (f:Nat) (c:V) (ix:Nat) (r:V):Kf (.fn f c) ix r = .fcons ix (.fn f c) r:=rfl
theorem Aka (f:Nat) (c:V):Ho (.fn f c)=True:=Gv
theorem YJ  (ix:Nat) (r:V):Kf (.nilf) ix r = .fcons ix (.nilf) r:=rfl
theorem Zz :Ho (.nilf)=True:=Gv
theorem As4 (w:BitVec 64) (ix:Nat) (r:V):Kf (W w) ix r = .fcons ix (W w) r:=rfl
theorem Ap6 (w:BitVec 64):Ho (W w)=True:=by simp [Ho,V.solid,W]
theorem Apq (w:BitVec 8) (ix:Nat) (r:V):Kf (B w) ix r = .fcons ix (B w) r:=rfl
theorem Aso (w:BitVec 8):Ho (B w)=True:=by simp [Ho,V.solid,B]
theorem Aos (d:Dg) (ix:Nat) (r:V):Kf (dg d) ix r = .fcons ix (dg d) r:=rfl
theorem Ak4 (d:Dg):Ho (dg d)=True:=by simp [Ho,V.solid,dg]
def Yp:=(Cv (Jx @Ao3 @Ap9 @Atv @Arj @Ag8 @Agh @Aar @Aaq @Aen @Aez @ZO @XO @Afc @Ad9) (Ej @XG @Aag @Aoi @Amz @Agx @Ah5 @Zp @Z5 @Adu @Ah6 @Akp @Ams @Anl @Ajg @Aec) (Ej @Aem @Aib @Ae3 @Acw @Aba @Am5 @Aka @YJ @Zz @As4 @Ap6 @Apq @Aso @Aos @Ak4))
theorem Sk (w:BitVec 64):AF (W w)=True:=rfl
theorem Ans (w:BitVec 8):AF (B w)=True:=rfl
theorem Ri (d:Dg):AF (dg d)=True:=eq_true (by simp only [AF,dg,B,implies_true])
end Mv
