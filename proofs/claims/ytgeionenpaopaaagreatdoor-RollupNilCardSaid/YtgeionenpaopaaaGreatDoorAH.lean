/- A part. -/
import Derived.Test.YtgeionenpaopaaaGreatDoorAG
import Derived.WideKeyRuns
import Derived.Carry
import Derived.MapKept
import Derived.Laws.Externs
import Derived.KernelRfl
import Derived.Laws.BytesString
set_option linter.all false
namespace Mv
open Go
variable {M:Seat}
def FG:ES→Bool
 | .int=>true
 | .ar _ 1 false .int=>true
 | _=>false
theorem Do {s:ES} (h:FG s=true):s = .int ∨ ∃ n,s = .ar n 1 false .int:=by
 unfold FG at h;split at h
 ·exact .inl rfl
 ·exact .inr ⟨_,rfl⟩
 ·cases h
theorem Eg {a b:V} (h:AQ true .int a b):∃ k x y,a = .int k x∧b = .int k y:=by
 cases a <;> cases b <;> simp only [AQ] at h;subst h;exact ⟨_,_,_,rfl,rfl⟩
theorem Y7 {e:Env} {s:ES} (hs:FG s=true) {a b:V} {x y:Value} (hp:AQ true s a b) (hx:RS e a x) (hy:RS e b y) (hv:AX s a b=true):x=y:=by
 rcases Do hs with rfl | ⟨n,rfl⟩
 ·cases a <;> cases b <;> simp only [AQ] at hp;simp only [AX,decide_eq_true_eq] at hv;subst hp;subst hv;simp only [RS,V.isAgg,R,E0] at hx hy;rw [hx,hy]
 ·cases a <;> cases b <;> simp only [AQ] at hp;rename_i sz1 n1 f sz2 n2 g;obtain ⟨⟨h1,h2,h3,h4⟩,hp⟩:=hp;subst h1;subst h2;subst h3;simp only [AX,List.all_eq_true,List.mem_range] at hv;simp only [RS,V.isAgg,R] at hx hy;obtain ⟨xs,rfl,hxl,hx⟩:=hx;obtain ⟨ys,rfl,hyl,hy⟩:=hy
  congr 1
  have:xs=ys:=by
   apply List.ext_getElem Aa;intro j h1 h2;have hj:j < n1:=Aa;obtain ⟨_,_,hpj⟩:=hp j hj;have hvj:=hv j hj;have hxj:=(hx j hj).2;have hyj:=(hy j Aa).2;obtain ⟨k1,z1,z2,e3,e4⟩:=Eg hpj;rw [e3,e4] at hvj;simp only [AX,decide_eq_true_eq] at hvj;subst hvj;rw [e3] at hxj;rw [e4] at hyj;simp only [R,Nat.mul_one] at hxj hyj;have e1:xs[j]?=some (.int k1 z1):=by
    have:=congrArg (fun l=>l[0]?) hxj;simpa [List.getElem?_take,List.getElem?_drop] using this
   have e2:ys[j]?=some (.int k1 z1):=by
    have:=congrArg (fun l=>l[0]?) hyj;simpa [List.getElem?_take,List.getElem?_drop] using this
   rw [List.getElem?_eq_getElem h1] at e1;rw [List.getElem?_eq_getElem h2] at e2;exact (Option.some.inj e1).trans (Option.some.inj e2).symm
  rw [this]
theorem Zf {e:Env} {s:ES} (hs:FG s=true) {a:V} {x:Value} (hp:AQ true s a a) (hx:RS e a x):Instr.sameBits 10000 x x=true:=by
 rcases Do hs with rfl | ⟨n,rfl⟩
 ·cases a <;> simp only [AQ] at hp;simp only [RS,V.isAgg,R,E0] at hx;rw [hx];simp [Instr.sameBits]
 ·cases a <;> simp only [AQ] at hp;rename_i sz1 n1 f;obtain ⟨⟨rfl,_,rfl,_⟩,hp⟩:=hp;simp only [RS,V.isAgg,R] at hx;obtain ⟨xs,rfl,hxl,hx⟩:=hx;simp only [Instr.sameBits,beq_self_eq_true,Bool.true_and,List.all_eq_true];rintro ⟨p,q⟩ hpq;obtain ⟨j,hj,hje⟩:=List.getElem_of_mem hpq;simp only [List.length_zip] at hj;have hj1:j < xs.length:=by simpa using hj
  rw [List.getElem_zip] at hje;simp only [Prod.mk.injEq] at hje;have hjn:j < n1:=Aa;obtain ⟨_,_,hpj⟩:=hp j hjn;have hxj:=(hx j hjn).2;obtain ⟨k1,z1,z2,e3,_⟩:=Eg hpj;rw [e3] at hxj;simp only [R,Nat.mul_one] at hxj;have e1:xs[j]?=some (.int k1 z1):=by
   have:=congrArg (fun l=>l[0]?) hxj;simpa [List.getElem?_take,List.getElem?_drop] using this
  rw [List.getElem?_eq_getElem hj1] at e1;have e2:=Option.some.inj e1;have h1:p=xs[j]:=by rw [← hje.1]
  have h2:q=xs[j]:=by rw [← hje.2]
  rw [h1,h2,e2];simp [Instr.sameBits]
theorem EC {e:Env} {s:ES} (hs:FG s=true) {t:TypeId} (hc:BE M s t []=true) {a:V} {x:Value} (hp:AQ true s a a) (hx:RS e a x) (em:Bool):(Instr.checkKey em 10000 t x).run M.P e.w = .ok () e.w:=by
 rcases Do hs with rfl | ⟨n,rfl⟩
 ·cases a <;> simp only [AQ] at hp;simp only [RS,V.isAgg,R,E0] at hx;simp only [BE] at hc;split at hc
  ·rename_i hu;rw [hx,Instr.checkKey];simp [run_underlying hu]
  ·cases hc
 ·cases a <;> simp only [AQ] at hp;rename_i sz1 n1 f;obtain ⟨⟨rfl,_,rfl,_⟩,hp⟩:=hp;simp only [RS,V.isAgg,R] at hx;obtain ⟨xs,rfl,hxl,hx⟩:=hx;simp only [BE] at hc;split at hc;case h_2=>cases hc
  rename_i m el hu;simp only [Bool.and_eq_true,beq_iff_eq] at hc;obtain ⟨⟨⟨⟨hfs,rfl⟩,hsz⟩,ha⟩,hcs⟩:=hc;split at hcs;case h_2=>cases hcs
  rename_i kk hue;rw [Instr.checkKey];simp only [QP,run_underlying hu];simp only [Std.Legacy.Range.forIn_eq_forIn_range',Std.Legacy.Range.size,Nat.sub_zero,Nat.add_one_sub_one,Nat.div_one];have each:∀ j ∈ List.range' 0 m,j < m:=by intro j hj;simpa using hj
  generalize List.range' 0 m=is at each;induction is with
  | nil=>simp
  | cons j is ih =>
    have hj:=each j BF;obtain ⟨_,_,hpj⟩:=hp j hj;obtain ⟨⟨x1,x2⟩,x3⟩:=hx j hj;have hag:(f j).isAgg=false:=(hp j hj).1;obtain ⟨y,r1,r2⟩:=DO (e:=e) hsz ha x1 x2 hag Aa x3;have r3:(Instr.checkKey em 9999 el y).run M.P e.w = .ok () e.w:=by
     obtain ⟨k1,z1,z2,e3,_⟩:=Eg hpj;rw [e3] at r2;simp only [RS,V.isAgg,R,E0] at r2;rw [r2,Instr.checkKey];simp [run_underlying hue]
    simp only [List.forIn_cons,EP,Bv hsz,r1,r3];exact ih (fun y hy=>each y (by simp [hy]))
theorem Alo {s:ES} (hs:FG s=true):s.ht≤10∧Et s=false:=by
 rcases Do hs with rfl | ⟨n,rfl⟩
 ·exact ⟨by decide,rfl⟩
 ·refine ⟨?_,rfl⟩;simp only [ES.ht];omega
def CW (s:ES) (k:V) (ks:Nat→V) (l:List MapEntry) (i:Nat) (r:Option (Nat × Value)):Prop :=
 match KD s k ks i l.length with
 | some j=>i≤j∧∃ x,l[j - i]?=some x∧r=some (j,x.val)∧AX s k (ks j)=true
 | none=>r=none
theorem CW.cons_hit {s:ES} {k:V} {ks:Nat→V} {x:MapEntry} {l:List MapEntry} {i:Nat} (h:AX s k (ks i)=true):CW s k ks (x :: l) i (some (i,x.val)):=by
 simp only [CW,List.length_cons,KD,h,if_true];exact ⟨Nat.le_refl _,x,by simp,rfl,trivial⟩
theorem CW.cons_miss {s:ES} {k:V} {ks:Nat→V} {x:MapEntry} {l:List MapEntry} {i:Nat} {r:Option (Nat × Value)} (h:AX s k (ks i)=false) (hr:CW s k ks l (i + 1) r):CW s k ks (x :: l) i r:=by
 have e:KD s k ks i (x :: l).length=KD s k ks (i + 1) l.length:=by simp [KD,h]
 unfold CW at hr ⊢;rw [e];split at hr
 ·obtain ⟨h1,y,h2,h3,h4⟩:=hr;rename_i j _;refine ⟨by omega,y,?_,h3,h4⟩;rw [show j - i=(j - (i + 1)) + 1 by omega,List.getElem?_cons_succ];exact h2
 ·exact hr
theorem NT {e:Env} (hτ:e.τ=M.τ) {s:ES} (hs:FG s=true) {t:TypeId} (hc:BE M s t []=true) {k:V} {x:Value} (hx:RS e k x) {ks:Nat→V} {es:Array MapEntry}
 (hk:∀ i y,es[i]?=some y→RS e (ks i) y.key) (hp:∀ i,i < es.size→AQ true s k (ks i)) :
 ∃ r,(Instr.findKey t x es.toList).run M.P e.w = .ok r e.w∧CW s k ks es.toList 0 r:=by
 have key:∀ (l:List MapEntry) (i:Nat),(∀ j y,l[j]?=some y→RS e (ks (i + j)) y.key∧AQ true s k (ks (i + j))) →
  ∃ r,(Instr.findAsking t x l i).run M.P e.w = .ok r e.w∧CW s k ks l i r:=by
  intro l;induction l with
  | nil=>intro i _;exact ⟨none,by simp [Instr.findAsking],by simp [CW,KD]⟩
  | cons y l ih =>
    intro i hl;obtain ⟨h1,h2⟩:=hl 0 y BF;simp only [Nat.add_zero] at h1 h2;obtain ⟨hh,hf⟩:=Alo hs;have q:=(Ib hτ true s t [] k (ks i) (10000 - s.ht) hc h2).1 hf x y.key hx h1;rw [show s.ht + (10000 - s.ht)=Op.maxDepth from by simp only [Op.maxDepth];omega] at q;have q':(Op.equal t x y.key).run M.P e.w = .ok (AX s k (ks i)) e.w:=q
    obtain ⟨r,g1,g2⟩:=ih (i + 1) (fun j z hz=>by
     have:=hl (j + 1) z (by simpa using hz)
     rwa [show i + (j + 1)=i + 1 + j by omega] at this)
    cases hv:AX s k (ks i) with
    | true=>exact ⟨some (i,y.val),by simp [Instr.findAsking,q',hv],CW.cons_hit hv⟩
    | false=>exact ⟨r,by simp [Instr.findAsking,q',hv,g1],CW.cons_miss hv g2⟩
 have hall:∀ j y,es.toList[j]?=some y→RS e (ks (0 + j)) y.key∧AQ true s k (ks (0 + j)):=by
  intro j y hy;have hy':es[j]?=some y:=by simpa using hy
  rw [Nat.zero_add];exact ⟨hk j y hy',hp j (Array.getElem?_eq_some_iff.1 hy').1⟩
 rcases Do hs with rfl | ⟨n,rfl⟩
 ·simp only [BE] at hc;split at hc
  ·rename_i kk hu;have now:∀ (l:List MapEntry) (i:Nat),(∀ j y,l[j]?=some y→RS e (ks (i + j)) y.key∧AQ true .int k (ks (i + j))) →
    ∃ r,Instr.findNow (.int kk) x l i=some r∧CW .int k ks l i r:=by
    intro l;induction l with
    | nil=>intro i _;exact ⟨none,by simp [Instr.findNow],by simp [CW,KD]⟩
    | cons y l ih =>
      intro i hl;obtain ⟨h1,h2⟩:=hl 0 y BF;simp only [Nat.add_zero] at h1 h2;obtain ⟨k1,z1,z2,e3,e4⟩:=Eg h2
      obtain ⟨r,g1,g2⟩:=ih (i + 1) (fun j z hz=>by
       have:=hl (j + 1) z (by simpa using hz)
       rwa [show i + (j + 1)=i + 1 + j by omega] at this)
      have hx':=hx;rw [e3] at hx';rw [e4] at h1;simp only [RS,V.isAgg,R,E0] at hx' h1;have hsn:Instr.sameNow (.int kk) x y.key=some (decide (z1=z2)):=by rw [hx',h1];simp [Instr.sameNow];rfl
      have hvv:AX .int k (ks i)=decide (z1=z2):=by rw [e3,e4];rfl
      by_cases hz:z1=z2
      ·exact ⟨some (i,y.val),by simp [Instr.findNow,hsn,hz],CW.cons_hit (by rw [hvv];simp [hz])⟩
      ·exact ⟨r,by simp [Instr.findNow,hsn,hz,g1],CW.cons_miss (by rw [hvv];simp [hz]) g2⟩
   obtain ⟨r,g1,g2⟩:=now es.toList 0 hall;exact ⟨r,by simp [Instr.findKey,run_underlying hu,g1],g2⟩
  ·cases hc
 ·obtain ⟨m,el,hu⟩:∃ m el,M.P.underlying t=some (.array m el):=by
   simp only [BE] at hc;split at hc
   ·rename_i m el hu;exact ⟨m,el,hu⟩
   ·cases hc
  obtain ⟨r,g1,g2⟩:=key es.toList 0 hall;exact ⟨r,(run_findKey_eq (P:=M.P) (w:=e.w) (k:=t) (by rw [hu]) x es.toList).trans g1,g2⟩
def Fp (w:World) (g:Nat) (es:Array MapEntry) (clock:Nat):World:={ w with heap:=w.heap.setIfInBounds g (.map es clock) }
theorem Ml {w:World} {g:Nat} {o:Obj} (hg:w.heap[g]?=some o) (es:Array MapEntry) (clock:Nat):(Fp w g es clock).heap[g]?=some (.map es clock):=by
 have:=(Array.getElem?_eq_some_iff.1 hg).1;simp [Fp,this]
theorem CB {w:World} {g b:Nat} (es:Array MapEntry) (clock:Nat) (h:b ≠ g):(Fp w g es clock).heap[b]?=w.heap[b]?:=by
 simp [Fp,Array.getElem?_setIfInBounds_ne (Ne.symm h)]
theorem KF {w:World} {g:Nat} {es0:Array MapEntry} {c0:Nat} (hg:w.heap[g]?=some (.map es0 c0)) (es:Array MapEntry) (clock:Nat) (b:Nat):BM (Fp w g es clock) b=BM w b:=by
 unfold BM;by_cases h:b=g
 ·subst h;rw [Ml hg,hg]
 ·rw [CB es clock h]
theorem Env.le_map {e:Env} {g:Nat} {es0:Array MapEntry} {c0:Nat} (hg:e.w.heap[g]?=some (.map es0 c0)) (him:¬ e.im g) (es:Array MapEntry) (clock:Nat) :
 e.le { e with w:=Fp e.w g es clock } where
 D _ hi:=⟨hi,rfl⟩
 im b hb:=⟨hb,fun c el fz hc=>⟨el,fz,by
  show (Fp e.w g es clock).heap[b]?=_
  rw [CB _ _ (fun h':b=g=>him (h' ▸ hb))];exact hc⟩,fun es' ck hc=>by
  show (Fp e.w g es clock).heap[b]?=_
  rw [CB _ _ (fun h':b=g=>him (h' ▸ hb))];exact hc⟩
 sz b:=Nat.le_of_eq (KF hg es clock b).symm
 φ:=rfl
 τ:=rfl
theorem Inv.rowMap {c:Ctx} {e:Env} {H:Hp} (h:Inv M c e H) {id:Nat} (hid:Af H id=true) {es0:Array MapEntry} {c0:Nat} (hg:e.w.heap[e.ρ id]?=some (.map es0 c0))
 {es:Array MapEntry} (clock:Nat) {n:Nat} {ks vs:Nat→V} (hn:es.size=n) (hwf:WfE es clock) (hes:∀ i x,es[i]?=some x→((ks i).solid=true∧RS e (ks i) x.key)∧(vs i).solid=true∧RS e (vs i) x.val) :
 e.le { e with w:=Fp e.w (e.ρ id) es clock }∧Inv M c { e with w:=Fp e.w (e.ρ id) es clock } (BC H id (.mp n ks vs)):=by
 obtain ⟨hD,_,him,hO⟩:=h.blk id hid;have hle:=Env.le_map hg him es clock;refine ⟨hle,?_,?_,?_,h.imo,?_,?_,h.keep,h.low,h.gs.mono hle,h.φ,h.τ⟩
 ·refine h.ev.trans (O':=fun b=>b=e.ρ id) ⟨rfl,rfl,rfl,by simp [Fp],fun b _ hb=>CB _ _ hb,fun b=>Nat.le_of_eq (KF hg es clock b).symm⟩ ?_;rintro i rfl;exact hO
 ·intro j hj;rw [Cs] at hj;obtain ⟨h1,h2,h3,h4⟩:=h.blk j hj;refine ⟨h1,?_,h3,h4⟩;by_cases hji:j=id
  ·subst hji;rw [Ck _ _ _ hj];refine ⟨es,clock,Ml hg es clock,hn,hwf,fun i x hx=>?_⟩;obtain ⟨⟨q1,q2⟩,q3,q4⟩:=hes i x hx;exact ⟨⟨q1,C6 hle q2⟩,q3,C6 hle q4⟩
  ·rw [BL _ _ _ hji];refine D5 hle h1 ?_ h2;exact CB _ _ (fun hne=>hji (h.inj j id hj hid hne))
 ·intro i j hi hj;rw [Cs] at hi hj;exact h.inj i j hi hj
 ·intro b hb;rcases h.imb b hb with ⟨cells,el',fz,hc⟩ | ⟨es',ck,hc⟩
  ·exact .inl ⟨cells,el',fz,by show (Fp e.w (e.ρ id) es clock).heap[b]?=_;rw [CB _ _ (fun h':b=e.ρ id=>him (h' ▸ hb))];exact hc⟩
  ·exact .inr ⟨es',ck,by show (Fp e.w (e.ρ id) es clock).heap[b]?=_;rw [CB _ _ (fun h':b=e.ρ id=>him (h' ▸ hb))];exact hc⟩
 ·intro j hj;show e.ρ j < (Fp e.w (e.ρ id) es clock).heap.size;simp only [Fp,Array.size_setIfInBounds];exact h.rb j hj
theorem DQ {P:Program} {w:World} {r:Nat} {es:Array MapEntry} {clock:Nat} (hb:w.heap[r]?=some (.map es clock)):(getObj r).run P w = .ok (.map es clock) w:=by simp [getObj,Sem.run,hb]
theorem Kr {P:Program} {w:World} {r:Nat} {es:Array MapEntry} {clock:Nat} (hb:w.heap[r]?=some (.map es clock)) (es':Array MapEntry) (c':Nat):(setObj r (.map es' c')).run P w = .ok () (Fp w r es' c'):=by simp [setObj,Sem.run,hb,Fp]
def Aac (x:Value):Bool:=match x with | .agg _=>true | _=>false
theorem Aer {e:Env} {z:Z} {x:Value} (hc:z.chk x=true) (ha:Aac x=(z.v 0).isAgg):RS e (z.v 0) x∧(z.v 0).solid=true:=by
 obtain ⟨_,h2,h3,_⟩:=Z.chk_R e hc;refine ⟨?_,h3⟩;unfold RS;cases hg:(z.v 0).isAgg with
 | true =>
   rw [hg] at ha
   match x,ha,h2 with
   | .agg cs,_,h2=>exact ⟨cs.toList,by simp,by simpa [Value.cells] using h2⟩
 | false =>
   rw [hg] at ha;have:x.cells = #[x]:=by
    unfold Value.cells;split
    ·simp [Aac] at ha
    ·rfl
   rw [this] at h2;exact h2
theorem QO {c:Ctx} {e:Env} {H:Hp} {A:List V} (hI:Inv M c e H) {n:Nat} (hn:¬ e.D n) (hk:c.k≤n) (t:TypeId) (zk zv:Z) :
 Bm M c e n (Ag A H n (.mkmap zk zv)) (Sem.run M.P (do pure (Next.value (← Instr.makeMap t none)):Sem Next) e.w):=by
 have hle:=Env.le_new (e:=e) (n:=n) (.map #[] 0) hn hI.imlt;have hρ:(e.new n (.map #[] 0)).ρ n=e.w.heap.size:=QQ;refine ⟨.map (some e.w.heap.size),e.new n (.map #[] 0),.inl (AB rfl),hle,?_,?_,fun id h=>(FT id h)⟩
 ·refine hI.new hn hk ?_;refine ⟨#[],0,?_,rfl,Abs 0,fun i x hx=>by simp at hx⟩;rw [hρ];exact BG _ _
 ·show RS _ (.map n) _;simp only [RS,V.isAgg,R,hρ,and_true];exact .inl rfl
theorem Y3 {e:Env} {v:V} {x:Value} (hs:v.solid=true) (h:RS e v x):RV e v x:=(Bb hs).2 h
theorem Qj {c:Ctx} {e:Env} {H:Hp} {A:List V} {a:Act} (hI:Inv M c e H) (hA:FR e A a.tmps) {n:Nat} {t kt vt:TypeId} {x1 x2:Operand} {y1 y2:X} {s:ES} {z:Z} {ok:Bool} {zx:Value}
 (ht:M.P.underlying t=some (.map kt vt)) (hs:FG s=true) (hc:BE M s kt []=true) (hz:(M.P.info? vt).bind (·.zero)=some zx) (hzc:z.chk zx=true) (hza:Aac zx=(z.v 0).isAgg)
 (h1:A3 M x1 y1=true) (g1:CJ M e y1) (h2:A3 M x2 y2=true) (g2:CJ M e y2) (hp:(Ag A H n (.mlook s z ok y1 y2)).pre) :
 Bm M c e n (Ag A H n (.mlook s z ok y1 y2)) (Sem.run M.P (do pure (Next.value (← Instr.lookup t (a.eval x1) (a.eval x2) ok)):Sem Next) e.w):=by
 have v1:=Az hI.φ hA h1 g1;have v2:=Az hI.φ hA h2 g2;simp only [Ag,Lw] at hp ⊢;generalize a.eval x1=m at *
 generalize a.eval x2=k at *
 split at hp;case h_2=>exact hp.elim
 rename_i id hy;rw [hy] at v1;split at hp;case h_2=>exact hp.elim
 rename_i nn ks vs hb;obtain ⟨p1,p2,p3,p4⟩:=hp;obtain ⟨_,hblk,_,_⟩:=hI.blk id p1;simp only [hb] at hblk ⊢;obtain ⟨es,clock,hheap,hsz,hwf,hes⟩:=hblk;obtain ⟨hD,rfl⟩:=QR v1;rw [Bb p2] at v2;obtain ⟨r,hr,hf⟩:=NT hI.τ hs hc v2 (fun i y hy=>((hes i y hy).1).2) (fun i hi=>p4 i Aa);have hck:=EC hs hc p3 v2 es.isEmpty;have hlen:es.toList.length=nn:=by simpa using hsz
 unfold CW at hf;rw [hlen] at hf;obtain ⟨zv1,zv2⟩:=Aer (e:=e) hzc hza;cases hm:KD s (y2.ev A) ks 0 nn with
 | none =>
   rw [hm] at hf;simp only at hf;subst hf;have hrun:(Instr.lookup t (.map (some (e.ρ id))) k ok).run M.P e.w = .ok (if ok then .tuple #[zx,.bool false] else zx) e.w:=by
    simp [Instr.lookup,run_underlying ht,DQ hheap,hck,hr,Gh hz]
   refine Ao hI (AB hrun) rfl ?_;cases ok
   ·exact Y3 zv2 zv1
   ·refine ⟨_,rfl,?_⟩;simp only [RT];exact ⟨⟨zv2,zx,rfl,zv1⟩,⟨rfl,.bool false,rfl,by simp [RS,V.isAgg,R]⟩,trivial⟩
 | some j =>
   rw [hm] at hf;obtain ⟨_,y,hyj,rfl,_⟩:=hf;rw [Nat.sub_zero] at hyj;have hyj':es[j]?=some y:=by simpa using hyj
   obtain ⟨_,q3,q4⟩:=hes j y hyj';have hrun:(Instr.lookup t (.map (some (e.ρ id))) k ok).run M.P e.w = .ok (if ok then .tuple #[y.val,.bool true] else y.val) e.w:=by
    simp [Instr.lookup,run_underlying ht,DQ hheap,hck,hr]
   refine Ao hI (AB hrun) rfl ?_;cases ok
   ·exact Y3 q3 q4
   ·refine ⟨_,rfl,?_⟩;simp only [RT];exact ⟨⟨q3,y.val,rfl,q4⟩,⟨rfl,.bool true,rfl,by simp [RS,V.isAgg,R]⟩,trivial⟩
theorem Uy {c:Ctx} {e:Env} {H:Hp} {A:List V} {a:Act} (hI:Inv M c e H) (hA:FR e A a.tmps) {n:Nat} {t kt vt:TypeId} {x1 x2 x3:Operand} {y1 y2 y3:X} {s:ES}
 (ht:M.P.underlying t=some (.map kt vt)) (hs:FG s=true) (hc:BE M s kt []=true)
 (h1:A3 M x1 y1=true) (g1:CJ M e y1) (h2:A3 M x2 y2=true) (g2:CJ M e y2) (h3:A3 M x3 y3=true) (g3:CJ M e y3) (hp:(Ag A H n (.mupd s y1 y2 y3)).pre) :
 Bm M c e n (Ag A H n (.mupd s y1 y2 y3)) (Sem.run M.P (do Instr.mapUpdate t (a.eval x1) (a.eval x2) (a.eval x3);pure Next.skip) e.w):=by
 have v1:=Az hI.φ hA h1 g1;have v2:=Az hI.φ hA h2 g2;have v3:=Az hI.φ hA h3 g3;simp only [Ag,WF] at hp ⊢;generalize a.eval x1=m at *
 generalize a.eval x2=k at *
 generalize a.eval x3=x at *
 split at hp;case h_2=>exact hp.elim
 rename_i id hy;rw [hy] at v1;split at hp;case h_2=>exact hp.elim
 rename_i nn ks vs hb;obtain ⟨p1,p2,p5,p3,p4⟩:=hp;obtain ⟨_,hblk,_,_⟩:=hI.blk id p1;simp only [hb] at hblk ⊢;obtain ⟨es,clock,hheap,hsz,hwf,hes⟩:=hblk;obtain ⟨hD,rfl⟩:=QR v1;rw [Bb p2] at v2;rw [Bb p5] at v3;obtain ⟨r,hr,hf⟩:=NT hI.τ hs hc v2 (fun i y hy=>((hes i y hy).1).2) (fun i hi=>p4 i Aa);have hck:=EC hs hc p3 v2 false;have hlen:es.toList.length=nn:=by simpa using hsz
 unfold CW at hf;rw [hlen] at hf;cases hm:KD s (y2.ev A) ks 0 nn with
 | none =>
   rw [hm] at hf;simp only at hf;subst hf;have hrun:(Instr.mapUpdate t (.map (some (e.ρ id))) k x).run M.P e.w = .ok () (Fp e.w (e.ρ id) (es.push { key:=k,val:=x,born:=clock }) (clock + 1)):=by
    simp [Instr.mapUpdate,run_underlying ht,DQ hheap,hck,hr,Kr hheap]
   obtain ⟨r1,r2⟩:=hI.rowMap p1 hheap (es:=es.push { key:=k,val:=x,born:=clock }) (clock + 1) (n:=nn + 1) (ks:=fun j=>if j=nn then y2.ev A else ks j) (vs:=fun j=>if j=nn then y3.ev A else vs j) (by simp [hsz]) (Ym hwf k x) (by
    intro i y hy;rw [Array.getElem?_push] at hy;by_cases hi:i=nn
    ·subst hi;rw [if_pos hsz.symm] at hy;cases hy;simp only [if_true];exact ⟨⟨p2,v2⟩,p5,v3⟩
    ·rw [if_neg Aa] at hy;simp only [if_neg hi]
     exact hes i y hy)
   refine ⟨undef,_,.inr ⟨?_,rfl⟩,r1,r2,?_,fun _ h=>.inl h⟩
   ·simp only [EP,hrun]
   ·exact ⟨#[],rfl,trivial⟩
 | some j =>
   rw [hm] at hf;obtain ⟨_,y,hyj,rfl,hv⟩:=hf;rw [Nat.sub_zero] at hyj;have hyj':es[j]?=some y:=by simpa using hyj
   have hjlt:=(Array.getElem?_eq_some_iff.1 hyj').1;obtain ⟨⟨q1,q2⟩,q3,q4⟩:=hes j y hyj';have hsame:k=y.key:=Y7 hs (p4 j Aa) v2 q2 hv;have hbits:=Zf hs p3 v2;have hkt:(Instr.keyThatStays y.key k).run M.P e.w = .ok k e.w:=by
    rw [← hsame];simp [Instr.keyThatStays,hbits]
   have hrun:(Instr.mapUpdate t (.map (some (e.ρ id))) k x).run M.P e.w = .ok () (Fp e.w (e.ρ id) (es.modify j fun q=>{ q with key:=k,val:=x }) clock):=by
    simp [Instr.mapUpdate,run_underlying ht,DQ hheap,hck,hr,hyj',hkt,Kr hheap]
   obtain ⟨r1,r2⟩:=hI.rowMap p1 hheap (es:=es.modify j fun q=>{ q with key:=k,val:=x }) clock (n:=nn) (ks:=fun i=>if i=j then y2.ev A else ks i) (vs:=fun i=>if i=j then y3.ev A else vs i) (by simpa using hsz) (Qw hwf j k x) (by
    intro i y' hy';rw [Array.getElem?_modify] at hy';by_cases hi:i=j
    ·subst hi;rw [if_pos rfl,hyj'] at hy';simp only [Option.map_some,Option.some.injEq] at hy';subst hy';simp only [if_true];exact ⟨⟨p2,v2⟩,p5,v3⟩
    ·rw [if_neg (fun h=>hi h.symm)] at hy';simp only [if_neg hi]
     exact hes i y' hy')
   refine ⟨undef,_,.inr ⟨?_,rfl⟩,r1,r2,?_,fun _ h=>.inl h⟩
   ·simp only [EP,hrun]
   ·exact ⟨#[],rfl,trivial⟩
def Rx (M:Seat) (t:TypeId):Bool:=match M.P.underlying t with | some .string=>true | _=>false
theorem Tr {c:Ctx} {e:Env} {H:Hp} {A:List V} {a:Act} (hI:Inv M c e H) (hA:FR e A a.tmps) {n:Nat} {t:TypeId} {x x2:Operand} {y y2:X}
 (ht:Rx M t=true) (hx:A3 M x y=true) (hg:CJ M e y) (hx2:A3 M x2 y2=true) (hg2:CJ M e y2) (hp:(Ag A H n (.sidx y y2)).pre) :
 Bm M c e n (Ag A H n (.sidx y y2)) (Sem.run M.P (do pure (Next.value (← Instr.index t (a.eval x) (a.eval x2)))) e.w):=by
 have ht:M.P.underlying t=some .string:=by
  unfold Rx at ht;split at ht
  ·assumption
  ·cases ht
 have hv:=Az hI.φ hA hx hg;have hv2:=Az hI.φ hA hx2 hg2;simp only [Ag] at hp ⊢;split at hp
 ·rename_i s k i hy hy2;rw [hy] at hv;rw [hy2] at hv2;obtain ⟨h0,h1⟩:=hp;have hlt:i.toNat < s.size:=Aa;have hs:s[i.toNat]?=some s[i.toNat]:=by simp [hlt]
  refine Ao hI (x:=.int .u8 (s[i.toNat]).toNat) (AB ?_) rfl ?_
  ·rw [Z6 hv,B2 hv2];simp only [Instr.index,asIntOf,EP,run_underlying ht];simp only [h0,if_true,hs,Sem.run_pure]
  ·simp only [hs,Option.getD_some,RV,RS,V.isAgg,R]
 ·exact hp.elim
def PO (M:Seat) (s d:TypeId):Bool:=match M.P.underlying s,M.P.underlying d with
 | some (.slice el),some .string=>(match M.P.underlying el with | some (.int .u8)=>true | _=>false)
 | _,_=>false
theorem PR (l:List Nat) (u:Nat→Int) (s:ByteArray):(l.map u).foldl (fun r n=>r.push (UInt8.ofNat n.toNat)) s=⟨s.data ++ (l.map fun i=>UInt8.ofNat (u i).toNat).toArray⟩:=by
 induction l generalizing s with
 | nil=>simp
 | cons n ns ih=>rw [List.map_cons,List.foldl_cons,ih];simp [ByteArray.push]
theorem Zy {c:Ctx} {e:Env} {H:Hp} {A:List V} {a:Act} (hI:Inv M c e H) (hA:FR e A a.tmps) {n:Nat} {s d:TypeId} {x1:Operand} {y1:X}
 (hc:PO M s d=true) (h1:A3 M x1 y1=true) (g1:CJ M e y1) (hp:(Ag A H n (.b2s y1)).pre) :
 Bm M c e n (Ag A H n (.b2s y1)) (Sem.run M.P (do pure (Next.value (← convert s d (a.eval x1)))) e.w):=by
 unfold PO at hc;split at hc;case h_2=>cases hc
 rename_i el hs hd;split at hc;case h_2=>cases hc
 rename_i he;have v1:=Az hI.φ hA h1 g1;simp only [Ag] at hp ⊢;split at hp;case h_2=>exact hp.elim
 rename_i sz m g hy;obtain ⟨rfl,hok,hm,hu⟩:=hp;obtain ⟨ad,cap,cs,hx,hR,hrun⟩:=Gl hI v1 hy hok (Nat.le_refl m);have hrun:=hrun e.w rfl;simp only [R] at hR;obtain ⟨hl,hR⟩:=hR;rw [Nat.mul_one] at hl;have hcs:cs=((List.range m).map fun i=>vI (g i)).map (Value.int .u8):=by
  refine List.ext_getElem (by simp [hl]) fun i hi hi2=>?_;have hi':i < m:=Aa;have h:=(hR i hi').2;have hg:=hu i hi';rw [Nat.mul_one] at h;have hd1:(cs.drop i).take 1=[cs[i]]:=by
   rw [List.drop_eq_getElem_cons hi];rfl
  rw [hd1] at h;simp only [List.getElem_map,List.getElem_range];cases hgi:g i <;> rw [hgi] at hg <;> try exact hg.elim
  rename_i k z;cases k <;> try exact hg.elim
  rw [hgi] at h;simp only [R,E0] at h;rw [h];rfl
 refine Ao hI (x:=.string (Ahq m g)) (AB ?_) rfl (by simp only [RV,RS,V.isAgg,R]);rw [hx] at hrun ⊢;rw [run_convert_bytes_string e.w s d el _ _ _ hs he hd];cases ad with
 | none =>
   simp only [Builtin.firstCells,Sem.run_pure,Result.ok.injEq,and_true] at hrun;have:cs.length=0:=by rw [← List.size_toArray,← hrun];rfl
   omega
 | some a' =>
   simp only [Builtin.firstCells,Nat.mul_one,hcs] at hrun;rw [run_bytesToString e.w a' m cap _ hrun,PR];simp [Ahq,ByteArray.empty,ByteArray.emptyWithCapacity];rfl
def KE (M:Seat):Callee→Bool
 | .value (.func f) => (match M.P.funcs[f]? with | some fn => fn.name == "math/bits.Add64" && fn.body.isNone && (Extern.findNext fn).isNone | none => false)
 | _=>false
def Is (M:Seat):Callee→Bool
 | .value (.func f) => (match M.P.funcs[f]? with | some fn => fn.name == "maps.clone" && fn.body.isNone && (Extern.findNext fn).isNone | none => false)
 | _=>false
theorem ID (fn : Func) (h : fn.name = "maps.clone") : Extern.find fn = some Extern.MapsClone.clone := by
 unfold Extern.find;rw [h];have h1 : List.lookup "maps.clone" Extern.allGenericRows = none := by kernel_rfl
 have h2 : List.lookup "maps.clone" Extern.allTypedRows = none := by kernel_rfl
 have h3 : List.lookup "maps.clone" Extern.allRows = some Extern.MapsClone.clone := by kernel_rfl
 simp only [h1,h2,h3];rfl
theorem K1 {P:Program} {w:World} {r:Nat} {es:Array MapEntry} {clock:Nat} (t:TypeId) (hb:w.heap[r]?=some (.map es clock)) :
 (Extern.MapsClone.clone #[.iface t (.map (some r))]).run P w = .ok (.iface t (.map (some w.heap.size))) (w.alloc (.map es clock)):=by
 have e:Extern.MapsClone.clone #[.iface t (.map (some r))]=(getObj r >>= fun o=>match o with
  | .map entries clock=>(newObj (.map entries clock) >>= fun n=>pure (.iface t (.map (some n))))
  | _ => stuck "maps.clone: a map expected") := rfl
 rw [e];simp [MapKept.run_getObj_map hb,Result.andThen,go_sem]
theorem NV {c:Ctx} {e:Env} {H:Hp} {A:List V} {a:Act} (hI:Inv M c e H) (hA:FR e A a.tmps) {n:Nat} (hn:¬ e.D n) (hk':c.k≤n) {k:Call} {ty:TypeId} {x1:Operand} {y1:X}
 (h0:Is M k.callee=true) (hxs:k.args = #[x1]) (h1:A3 M x1 y1=true) (g1:CJ M e y1) (hp:(Ag A H n (.mclone y1)).pre) :
 Bm M c e n (Ag A H n (.mclone y1)) (Sem.run M.P (do let d ← resolve a.eval k ty;invoke d.target d.args) e.w):=by
 have v1:=Az hI.φ hA h1 g1;unfold Is at h0;split at h0;case h_2=>cases h0
 rename_i f hcal;split at h0;case h_2=>cases h0
 rename_i fn hfn;simp only [Bool.and_eq_true,beq_iff_eq,Option.isNone_iff_eq_none] at h0;obtain ⟨⟨hname,hbody⟩,hnext⟩:=h0;simp only [Ag] at hp ⊢;split at hp;case h_3=>exact hp.elim
 case h_2 =>
  rename_i t m ks vs e1;rw [e1] at v1;have v1:R e (.ifc t (.fm m ks vs)) [a.eval x1]:=v1;simp only [R,V.isAgg] at v1;obtain ⟨x,hx,-,hx2⟩:=v1;obtain ⟨r,es,clock,hx2,him,q1,q2,qw,q3⟩:=hx2;simp only [E0] at hx hx2;have hle:=Env.le_new (e:=e) (n:=n) (.map es clock) hn hI.imlt;have hρ:(e.new n (.map es clock)).ρ n=e.w.heap.size:=QQ;refine ⟨.iface (e.τ t) (.map (some e.w.heap.size)),e.new n (.map es clock),.inl ?_,hle,?_,?_,fun id h=>(FT id h)⟩
  ·unfold resolve;have hev:a.eval (.func f) = .func (.func f) #[] #[]:=rfl;simp only [hcal,hev,Deferred.ofValue,EP,invoke];rw [Go.run_callFunc_extern hfn (by rw [hname];rfl) (by rw [hbody];rfl) hnext (ID fn hname)];have ea:(#[] ++ k.args.map a.eval ++ #[]:Array Value) = #[.iface (e.τ t) (.map (some r))]:=by rw [hxs];simp [hx,hx2]
   rw [ea,K1 _ q1];rfl
  ·refine hI.new hn hk' ?_;refine ⟨es,clock,by rw [hρ];exact BG _ _,q2,qw,fun i x hx=>?_⟩;obtain ⟨⟨r1,r2⟩,r3,r4⟩:=q3 i x hx;exact ⟨⟨r1,C6 hle r2⟩,r3,C6 hle r4⟩
  ·show RS _ (.ifc t (.map n)) _;simp only [RS,V.isAgg,R];refine ⟨.map (some e.w.heap.size),rfl,rfl,?_,?_⟩
   ·exact .inl rfl
   ·rw [hρ]
 rename_i t id e1;split at hp;case h_2=>exact hp.elim
 rename_i m ks vs e2;rw [e1] at v1;obtain ⟨b1,b2,b3,b4⟩:=hI.blk id hp;rw [e2] at b2;obtain ⟨es,clock,q1,q2,qw,q3⟩:=b2;have v1:R e (.ifc t (.map id)) [a.eval x1]:=v1;simp only [R,V.isAgg] at v1;obtain ⟨x,hx,-,hx2⟩:=v1;obtain ⟨-,hx2⟩:=hx2;simp only [E0] at hx hx2;have hle:=Env.le_new (e:=e) (n:=n) (.map es clock) hn hI.imlt;have hρ:(e.new n (.map es clock)).ρ n=e.w.heap.size:=QQ;refine ⟨.iface (e.τ t) (.map (some e.w.heap.size)),e.new n (.map es clock),.inl ?_,hle,?_,?_,fun id h=>(FT id h)⟩
 ·unfold resolve;have hev:a.eval (.func f) = .func (.func f) #[] #[]:=rfl;simp only [hcal,hev,Deferred.ofValue,EP,invoke];rw [Go.run_callFunc_extern hfn (by rw [hname];rfl) (by rw [hbody];rfl) hnext (ID fn hname)];have ea:(#[] ++ k.args.map a.eval ++ #[]:Array Value) = #[.iface (e.τ t) (.map (some (e.ρ id)))]:=by rw [hxs];simp [hx,hx2]
  rw [ea,K1 _ q1];rfl
 ·refine hI.new hn hk' ?_;refine ⟨es,clock,by rw [hρ];exact BG _ _,q2,qw,fun i x hx=>?_⟩;obtain ⟨⟨r1,r2⟩,r3,r4⟩:=q3 i x hx;exact ⟨⟨r1,C6 hle r2⟩,r3,C6 hle r4⟩
 ·show RS _ (.ifc t (.map n)) _;simp only [RS,V.isAgg,R];refine ⟨.map (some e.w.heap.size),rfl,rfl,?_,?_⟩
  ·exact .inl rfl
  ·rw [hρ]
theorem Wb {c:Ctx} {e:Env} {H:Hp} {A:List V} {a:Act} (hI:Inv M c e H) (hA:FR e A a.tmps) {n:Nat} {t:Nat} {xT as:TypeId} {d:TypeDesc} {x1:Operand} {y1:X}
 (ht:M.τ t=as) (hd:M.P.underlying as=some d) (hni:∀ ms,d ≠ .interface ms) (h1:A3 M x1 y1=true) (g1:CJ M e y1) (hp:(Ag A H n (.tas t y1)).pre) :
 Bm M c e n (Ag A H n (.tas t y1)) (Sem.run M.P (do pure (Next.value (← Instr.typeAssert (a.eval x1) xT as false)):Sem Next) e.w):=by
 have v1:=Az hI.φ hA h1 g1;simp only [Ag] at hp ⊢;split at hp;case h_2=>exact hp.elim
 rename_i t' v e1;rw [e1] at v1;obtain rfl:=hp;have v1:R e (.ifc t' v) [a.eval x1]:=v1;simp only [R] at v1;obtain ⟨x,hx,hs,hx2⟩:=v1;simp only [E0] at hx;refine Ao hI (x:=x) (AB ?_) rfl ?_
 ·rw [hx];have hτ:e.τ t'=as:=by rw [hI.τ];exact ht
  unfold Instr.typeAssert;simp only [QP,run_underlying hd];cases d <;> first | exact absurd rfl (hni _) | simp [hτ]
 ·refine Y3 hs ?_;unfold RS;cases hag:v.isAgg with
  | true=>rw [hag] at hx2;exact hx2
  | false=>rw [hag] at hx2;exact hx2
theorem Rk (fn : Func) (h : fn.name = "math/bits.Add64") : Extern.find fn = some Go.add64Entry := by
 unfold Extern.find;rw [h];have h1 : List.lookup "math/bits.Add64" Extern.allGenericRows = none := by kernel_rfl
 have h2 : List.lookup "math/bits.Add64" Extern.allTypedRows = none := by kernel_rfl
 have h3 : List.lookup "math/bits.Add64" Extern.allRows = some Go.add64Entry := by kernel_rfl
 simp only [h1,h2,h3];rfl
theorem Rl {c:Ctx} {e:Env} {H:Hp} {A:List V} {a:Act} (hI:Inv M c e H) (hA:FR e A a.tmps) {n:Nat} {k:Call} {ty:TypeId} {x1 x2 x3:Operand} {y1 y2 y3:X}
 (h0:KE M k.callee=true) (hxs:k.args = #[x1,x2,x3]) (h1:A3 M x1 y1=true) (g1:CJ M e y1) (h2:A3 M x2 y2=true) (g2:CJ M e y2) (h3:A3 M x3 y3=true) (g3:CJ M e y3) (hp:(Ag A H n (.add64 y1 y2 y3)).pre) :
 Bm M c e n (Ag A H n (.add64 y1 y2 y3)) (Sem.run M.P (do let d ← resolve a.eval k ty;invoke d.target d.args) e.w):=by
 have v1:=Az hI.φ hA h1 g1;have v2:=Az hI.φ hA h2 g2;have v3:=Az hI.φ hA h3 g3;unfold KE at h0;split at h0;case h_2=>cases h0
 rename_i f hcal;split at h0;case h_2=>cases h0
 rename_i fn hfn;simp only [Bool.and_eq_true,beq_iff_eq,Option.isNone_iff_eq_none] at h0;obtain ⟨⟨hname,hbody⟩,hnext⟩:=h0;simp only [Ag] at hp ⊢;split at hp;case h_2=>exact hp.elim
 rename_i p q r e1 e2 e3;rw [e1] at v1;rw [e2] at v2;rw [e3] at v3;obtain ⟨p0,q0,r0,r1⟩:=hp;refine Ao hI (x:=.tuple #[.int .u64 ((p + q + r) % 18446744073709551616),.int .u64 ((p + q + r) / 18446744073709551616)]) ?_ rfl ?_
 ·unfold resolve;have hev:a.eval (.func f) = .func (.func f) #[] #[]:=rfl;simp only [hcal,hev,Deferred.ofValue,EP,invoke];rw [Go.run_callFunc_extern hfn (by rw [hname];rfl) (by rw [hbody];rfl) hnext (Rk fn hname)];have ea:(#[] ++ k.args.map a.eval ++ #[]:Array Value) = #[a.eval x1,a.eval x2,a.eval x3]:=by rw [hxs];simp
  rw [ea,B2 v1,B2 v2,B2 v3,Go.run_add64 p q r p0 q0 r0 r1];rfl
 ·simp only [RV];refine ⟨_,rfl,⟨rfl,_,rfl,?_⟩,⟨rfl,_,rfl,?_⟩,trivial⟩ <;> simp [RS,R,V.isAgg]
theorem Wi {c:Ctx} {e:Env} {H:Hp} {A:List V} {a:Act} (hI:Inv M c e H) (hA:FR e A a.tmps) {n:Nat} (hn:¬ e.D n) (hk':c.k≤n) {t kt vt:TypeId} {x1:Operand} {y1:X}
 (ht:M.P.underlying t=some (.map kt vt)) (h1:A3 M x1 y1=true) (g1:CJ M e y1) (hp:(Ag A H n (.rng y1)).pre) :
 Bm M c e n (Ag A H n (.rng y1)) (Sem.run M.P (do pure (Next.value (← Instr.range t (a.eval x1))):Sem Next) e.w):=by
 have v1:=Az hI.φ hA h1 g1;simp only [Ag] at hp ⊢;generalize a.eval x1=x at *
 split at hp;case h_3=>exact hp.elim
 case h_2 =>
  rename_i m ks vs e1;rw [e1] at v1;have v1:R e (.fm m ks vs) [x]:=v1;have v2:=v1;simp only [R] at v1;obtain ⟨r,es,clock,hx2,him,q1,q2,qw,q3⟩:=v1;simp only [E0] at hx2;subst hx2;have hle:=Env.le_new (e:=e) (n:=n) (.mapIter (some r) clock #[] clock) hn hI.imlt;have hρ:(e.new n (.mapIter (some r) clock #[] clock)).ρ n=e.w.heap.size:=QQ;refine ⟨.pointer (some ⟨e.w.heap.size,0,none⟩),e.new n (.mapIter (some r) clock #[] clock),.inl ?_,hle,?_,?_,fun id h=>(FT id h)⟩
  ·simp [Instr.range,run_underlying ht,MapKept.run_getObj_map q1,Result.andThen,go_sem];rfl
  ·refine hI.new hn hk' ⟨r,clock,#[],clock,es,clock,?_,Bx hle v2,(hle.im r him).2.2 es clock q1,Nat.le_of_eq q2,Nat.le_refl _,Nat.le_refl _,fun i x hx=>?_,fun i h=>Aa⟩
   ·rw [hρ];exact BG _ _
   ·simp
  ·show RS _ (.ptr n []) _;simp only [RS,V.isAgg,R,hρ,At,and_true];exact .inl rfl
 rename_i id e1;rw [e1] at v1;split at hp;case h_2=>exact hp.elim
 rename_i m ks vs e2;obtain ⟨b1,b2,b3,b4⟩:=hI.blk id hp;rw [e2] at b2;obtain ⟨es,clock,q1,q2,qw,q3⟩:=b2;have v1:R e (.map id) [x]:=v1;simp only [R,E0] at v1;obtain ⟨-,rfl⟩:=v1;have hle:=Env.le_new (e:=e) (n:=n) (.mapIter (some (e.ρ id)) clock #[] clock) hn hI.imlt;have hρ:(e.new n (.mapIter (some (e.ρ id)) clock #[] clock)).ρ n=e.w.heap.size:=QQ;have hρ2:(e.new n (.mapIter (some (e.ρ id)) clock #[] clock)).ρ id=e.ρ id:=by
  have:id ≠ n:=fun h=>hn (h ▸ b1);simp [Env.new,this]
 refine ⟨.pointer (some ⟨e.w.heap.size,0,none⟩),e.new n (.mapIter (some (e.ρ id)) clock #[] clock),.inl ?_,hle,?_,?_,fun id h=>(FT id h)⟩
 ·simp [Instr.range,run_underlying ht,MapKept.run_getObj_map q1,Result.andThen,go_sem];rfl
 ·refine hI.new hn hk' ⟨.inr b1,clock,#[],clock,?_⟩;rw [hρ,hρ2];exact BG _ _
 ·show RS _ (.ptr n []) _;simp only [RS,V.isAgg,R,hρ,At,and_true];exact .inl rfl
theorem Y8 {c:Ctx} {e:Env} {H:Hp} {A:List V} {a:Act} (hI:Inv M c e H) (hA:FR e A a.tmps) {n:Nat} {t:TypeId} {x1:Operand} {y1:X}
 (h1:A3 M x1 y1=true) (g1:CJ M e y1) (hp:(Ag A H n (.nxt y1)).pre) :
 Bm M c e n (Ag A H n (.nxt y1)) (Sem.run M.P (do pure (Next.value (← Instr.next (a.eval x1) false t)):Sem Next) e.w):=by
 have v1:=Az hI.φ hA h1 g1;simp only [Ag] at hp ⊢;generalize a.eval x1=x at *
 split at hp;case h_2=>exact hp.elim
 rename_i id e1;rw [e1] at v1;split at hp;case h_2=>exact hp.elim
 rename_i j e2;split at hp;case h_2=>exact hp.elim
 rename_i m ks vs e3;obtain ⟨rfl,p1,p2⟩:=hp;obtain ⟨b1,b2,b3,b4⟩:=hI.blk id p1;obtain ⟨d1,d2,d3,d4⟩:=hI.blk j p2;rw [e2] at b2;rw [e3] at d2;obtain ⟨-,since,seen,last,r1⟩:=b2;obtain ⟨es,clock,q1,q2,qw,q3⟩:=d2;obtain rfl:es = #[]:=Array.eq_empty_of_size_eq_zero q2;have v1:R e (.ptr id []) [x]:=v1;simp only [R,E0,At] at v1;obtain ⟨-,rfl⟩:=v1;refine Ao hI (x:=.tuple #[.bool false]) ?_ rfl ?_
 ·simp [Instr.next,getObj,Sem.run_bind,Sem.run,r1,q1,Result.andThen,choose,Question.forced]
 ·exact ⟨_,rfl,⟨rfl,_,rfl,rfl⟩,trivial⟩
theorem UE {es:Array MapEntry} {ck:Nat} (hw:WfE es ck) {i:Nat} {x:MapEntry} (hx:es[i]?=some x):es.find? (fun e=>e.born == x.born)=some x:=by
 cases hf:es.find? (fun e=>e.born == x.born) with
 | none =>
   have:=Array.find?_eq_none.1 hf x (Array.mem_of_getElem? hx);simp at this
 | some y =>
   have h1:=Array.find?_some hf;have h2:=Array.mem_of_find?_eq_some hf;obtain ⟨j,hj,rfl⟩:=Array.mem_iff_getElem.1 h2;have h3:=hw.2 j i es[j] x (Array.getElem?_eq_getElem hj) hx Uz;subst h3;rw [← hx,Array.getElem?_eq_getElem hj]
theorem XU {c:Ctx} {e:Env} {H:Hp} {A:List V} {a:Act} (hI:Inv M c e H) (hA:FR e A a.tmps) {n:Nat} {x1:Operand} {y1:X}
 (h1:A3 M x1 y1=true) (g1:CJ M e y1) (hp:(Ag A H n (.ent y1)).pre) :
 Bm M c e n (Ag A H n (.ent y1)) (Sem.run M.P (do pure (Next.value (← Instr.entry (a.eval x1))):Sem Next) e.w):=by
 have v1:=Az hI.φ hA h1 g1;simp only [Ag] at hp ⊢;generalize a.eval x1=x at *
 split at hp;case h_2=>exact hp.elim
 rename_i id e1;rw [e1] at v1;split at hp;case h_2=>exact hp.elim
 rename_i o m ks vs sz L f e2;obtain ⟨p1,p2,p3⟩:=hp;obtain ⟨b1,b2,b3,b4⟩:=hI.blk id p1;rw [e2] at b2;obtain ⟨r,since,seen,last,es,clock,q1,q2,q3,q4,q5,q6,q7,q8⟩:=b2;obtain ⟨rfl,y,hy,hb⟩:=q8 (o - 1) Aa;simp only [R] at q2;obtain ⟨r',es',ck',w1,w2,w3,w4,w5,w6⟩:=q2;simp only [E0,Value.map.injEq,Option.some.injEq] at w1;subst w1;rw [q3] at w3;simp only [Option.some.injEq,Obj.map.injEq] at w3;obtain ⟨rfl,rfl⟩:=w3;have v1:R e (.ptr id []) [x]:=v1;simp only [R,E0,At] at v1;obtain ⟨-,rfl⟩:=v1;have hf:=UE w5 hy;obtain ⟨⟨s1,s2⟩,s3,s4⟩:=w6 (o - 1) y hy;refine Ao hI (x:=.tuple #[y.key,y.val]) ?_ rfl ?_
 ·simp [Instr.entry,getObj,Sem.run_bind,Sem.run,q1,q3,hb,hf,Result.andThen]
 ·have t1:RS e (ks (o - 1)) y.key:=by unfold RS;exact s2
  have t2:RS e (vs (o - 1)) y.val:=by unfold RS;exact s4
  exact ⟨_,rfl,⟨s1,_,rfl,t1⟩,⟨s3,_,rfl,t2⟩,trivial⟩
end Mv
