/- A part. -/
import Derived.Test.YtfljfijnobocoaaDoorHO
set_option linter.all false
set_option maxHeartbeats 16000000
set_option maxRecDepth 20000
namespace Mv
open Go
variable {M:Seat}
def E8 (w:World) (g:Nat) (o:Obj):World:={ w with heap:=w.heap.setIfInBounds g o }
theorem Mp {w:World} {g:Nat} {o0:Obj} (hg:w.heap[g]?=some o0) (o:Obj):(E8 w g o).heap[g]?=some o:=by
 have:=(Array.getElem?_eq_some_iff.1 hg).1;simp [E8,this]
theorem Cj {w:World} {g b:Nat} (o:Obj) (h:b ≠ g):(E8 w g o).heap[b]?=w.heap[b]?:=by
 simp [E8,Array.getElem?_setIfInBounds_ne (Ne.symm h)]
def O1:Obj→Bool
 | .mapIter ..=>true
 | _=>false
theorem Kj {w:World} {g:Nat} {o0 o:Obj} (hg:w.heap[g]?=some o0) (h0:O1 o0=true) (h1:O1 o=true) (b:Nat):BM (E8 w g o) b=BM w b:=by
 unfold BM;by_cases h:b=g
 ·subst h;rw [Mp hg,hg];cases o0 <;> simp [O1] at h0;cases o <;> simp [O1] at h1;rfl
 ·rw [Cj o h]
theorem Env.le_it {e:Env} {g:Nat} {o0 o:Obj} (hg:e.w.heap[g]?=some o0) (h0:O1 o0=true) (h1:O1 o=true) (him:¬ e.im g) :
 e.le { e with w:=E8 e.w g o } where
 D _ hi:=⟨hi,rfl⟩
 im b hb:=⟨hb,fun c el fz hc=>⟨el,fz,by
  show (E8 e.w g o).heap[b]?=_
  rw [Cj _ (fun h':b=g=>him (h' ▸ hb))];exact hc⟩,fun es' ck hc=>by
  show (E8 e.w g o).heap[b]?=_
  rw [Cj _ (fun h':b=g=>him (h' ▸ hb))];exact hc⟩
 sz b:=Nat.le_of_eq (Kj hg h0 h1 b).symm
 φ:=rfl
 τ:=rfl
theorem Inv.rowIt {c:Ctx} {e:Env} {H:Hp} (h:Inv M c e H) {id:Nat} (hid:Af H id=true) {o0 o:Obj} (hg:e.w.heap[e.ρ id]?=some o0) (h0:O1 o0=true) (h1:O1 o=true) {z:V}
 (hz:C2 { e with w:=E8 e.w (e.ρ id) o } id z) :
 e.le { e with w:=E8 e.w (e.ρ id) o }∧Inv M c { e with w:=E8 e.w (e.ρ id) o } (BC H id z):=by
 obtain ⟨hD,_,him,hO⟩:=h.blk id hid;have hle:=Env.le_it hg h0 h1 him;refine ⟨hle,?_,?_,?_,h.imo,?_,?_,h.keep,h.low,h.gs.mono hle,h.φ,h.τ⟩
 ·refine h.ev.trans (O':=fun b=>b=e.ρ id) ⟨rfl,rfl,rfl,by simp [E8],fun b _ hb=>Cj _ hb,fun b=>Nat.le_of_eq (Kj hg h0 h1 b).symm⟩ ?_;rintro i rfl;exact hO
 ·intro j hj;rw [Cs] at hj;obtain ⟨k1,k2,k3,k4⟩:=h.blk j hj;refine ⟨k1,?_,k3,k4⟩;by_cases hji:j=id
  ·subst hji;rw [Ck _ _ _ hj];exact hz
  ·rw [BL _ _ _ hji];refine BA hle k1 ?_ k2;exact Cj _ (fun hne=>hji (h.inj j id hj hid hne))
 ·intro i j hi hj;rw [Cs] at hi hj;exact h.inj i j hi hj
 ·intro b hb;rcases h.imb b hb with ⟨cells,el',fz,hc⟩ | ⟨es',ck,hc⟩
  ·exact .inl ⟨cells,el',fz,by show (E8 e.w (e.ρ id) o).heap[b]?=_;rw [Cj _ (fun h':b=e.ρ id=>him (h' ▸ hb))];exact hc⟩
  ·exact .inr ⟨es',ck,by show (E8 e.w (e.ρ id) o).heap[b]?=_;rw [Cj _ (fun h':b=e.ρ id=>him (h' ▸ hb))];exact hc⟩
 ·intro j hj;show e.ρ j < (E8 e.w (e.ρ id) o).heap.size;simp only [E8,Array.size_setIfInBounds];exact h.rb j hj
def itV (o m:Nat) (ks vs:Nat→V) (sz L:Nat) (f:Nat→V):V:=.tup (.fcons o (.fm m ks vs) (.ar sz L f))
def nxV (k v:V):V:=.tup (.fcons 0 (.bool true) (.fcons 1 k (.fcons 2 v .fnil)))
def KP (f:Nat→V) (i j:Nat):V:=if j=i then .bool true else f j
theorem Rc {es:Array MapEntry} {p:MapEntry→Bool} (h:∀ a ∈ es,p a=true):es.filter p=es:=by
 rw [Array.filter_eq_self];exact h
theorem Vd {P:Program} {w:World} {g:Nat} {a:Option Nat} {b d:Nat} {c:Array Nat} (hb:w.heap[g]?=some (.mapIter a b c d)):(getObj g).run P w = .ok (.mapIter a b c d) w:=by simp [getObj,Sem.run,hb]
theorem LI {P:Program} {w:World} {g:Nat} {a:Option Nat} {b d:Nat} {c:Array Nat} (hb:w.heap[g]?=some (.mapIter a b c d)) (o:Obj):(setObj g o).run P w = .ok () (E8 w g o):=by simp [setObj,Sem.run,hb,E8]
theorem Zi {P:Program} {w:World} {g r:Nat} {since last clock:Nat} {seen:Array Nat} {es left:Array MapEntry} {t:TypeId} (h1:w.heap[g]?=some (.mapIter (some r) since seen last)) (h2:w.heap[r]?=some (.map es clock))
 (hb:∀ a ∈ es,a.born < clock) (hs:clock≤since) (hl:clock≤last) (hf:es.filter (fun e=>!seen.contains e.born)=left) :
 (left = #[]∧(Instr.next (.pointer (some ⟨g,0,none⟩)) false t).run P w = .ok (.tuple #[.bool false]) w) ∨
 ∃ x w1,x ∈ left∧(w1=w ∨ w1=w.drew)∧(Instr.next (.pointer (some ⟨g,0,none⟩)) false t).run P w = .ok (.tuple #[.bool true,x.key,x.val]) (E8 w1 g (.mapIter (some r) since (seen.push x.born) clock)):=by
 have e1:(!seen.isEmpty && !es.isEmpty && es.all (fun x=>decide (x.born ≥ last)))=false:=by
  cases he:es.isEmpty with
  | true=>simp
  | false =>
    have:es.all (fun x=>decide (x.born ≥ last))=false:=by
     rw [Array.all_eq_false];have hne:0 < es.size:=by
      rcases Nat.eq_zero_or_pos es.size with h | h
      ·simp [Array.isEmpty,h] at he
      ·exact h
     exact ⟨0,hne,by have:=hb es[0] (Array.getElem_mem hne);simp;omega⟩
    rw [this];simp
 have hle:∀ a ∈ left,a.born < since:=fun a ha=>by
  rw [← hf] at ha;have:=hb a (Array.mem_filter.1 ha).1;omega
 have e2:left.filter (fun x=>decide (x.born < since))=left:=Rc fun a ha=>by simpa using hle a ha
 have e3:left.filter (fun x=>decide (x.born ≥ since)) = #[]:=by
  rw [Array.filter_eq_empty_iff];intro a ha;have:=hle a ha;simp;omega
 have key:(Instr.next (.pointer (some ⟨g,0,none⟩)) false t).run P w=((choose (.mapNext ((if left.isEmpty then #[none] else #[]) ++ left.map some).size)).run P w).andThen fun i w1 =>
  Sem.run P (match ((if left.isEmpty then #[none] else #[]) ++ left.map some)[i]? with
   | some (some e) => do
     setObj g (.mapIter (some r) since (seen.push e.born) clock)
     pure (.tuple #[.bool true,e.key,e.val])
   | some none=>pure (.tuple #[.bool false])
   | none => stuck "Next: no such candidate") w1 := by
  unfold Instr.next;simp only [QP,Vd h1,DQ h2,e1,O3,hf,e2,e3,Array.append_empty];rfl
 rw [key];rcases Nat.eq_zero_or_pos left.size with h0 | h0
 ·have h0:left = #[]:=Array.eq_empty_of_size_eq_zero h0;subst h0;left;refine ⟨rfl,?_⟩;simp [run_choose,Question.forced,Result.andThen]
 ·right;have he:left.isEmpty=false:=by
   cases hq:left.isEmpty with
   | false=>rfl
   | true=>simp at hq;simp [hq] at h0
  simp only [he,O3,Array.empty_append,Array.size_map,run_choose];split
  ·rename_i hq;refine ⟨left[0],w,Array.getElem_mem h0,.inl rfl,?_⟩;simp only [EP,Array.getElem?_map,Array.getElem?_eq_getElem h0,Option.map_some,LI h1]
  ·rename_i hq;have hlt:Question.cut (.mapNext left.size) (w.tape w.drawn (.mapNext left.size)) < left.size:=Nat.mod_lt _ h0;generalize Question.cut (.mapNext left.size) (w.tape w.drawn (.mapNext left.size))=j at *
   refine ⟨left[j],w.drew,Array.getElem_mem hlt,.inr rfl,?_⟩;have h1':w.drew.heap[g]?=some (.mapIter (some r) since seen last):=h1;simp only [EP,Array.getElem?_map,Array.getElem?_eq_getElem hlt,Option.map_some];show (((setObj g _).run P w.drew).andThen fun a w'=>Result.ok _ w')=_;rw [LI h1'];rfl
theorem Vi {c:Ctx} {e:Env} {H:Hp} {A:List V} {a:Act} (hI:Inv M c e H) (hA:FR e A a.tmps) {n:Nat} {t:TypeId} {x1:Operand} {y1:X}
 (h1:A3 M x1 y1=true) (g1:CJ M e y1) {id o m:Nat} {ks vs:Nat→V} {sz L:Nat} {f:Nat→V} (hy:y1.ev A = .ptr id []) (hh:Af H id=true) (hg:hget H id=itV o m ks vs sz L f) :
 ((∀ i,i < m→f i = .bool true)∧Bm M c e n ⟨True,.tup (.fcons 0 (.bool false) .fnil),H⟩ (Sem.run M.P (do pure (Next.value (← Instr.next (a.eval x1) false t)):Sem Next) e.w)) ∨
 ∃ i,i < m∧f i ≠ .bool true∧Bm M c e n ⟨True,nxV (ks i) (vs i),BC H id (itV (i + 1) m ks vs sz L (KP f i))⟩ (Sem.run M.P (do pure (Next.value (← Instr.next (a.eval x1) false t)):Sem Next) e.w):=by
 have v1:=Az hI.φ hA h1 g1;rw [hy] at v1;generalize a.eval x1=x at *
 obtain ⟨b1,b2,b3,b4⟩:=hI.blk id hh;rw [hg] at b2;obtain ⟨r,since,seen,last,es,clock,q1,q2,q3,q4,q5,q6,q7,q8⟩:=b2;have v1:R e (.ptr id []) [x]:=v1;simp only [R,E0,At] at v1;obtain ⟨-,rfl⟩:=v1;have q2':=q2;simp only [R] at q2';obtain ⟨r',es',ck',w1,w2,w3,w4,w5,w6⟩:=q2';simp only [E0,Value.map.injEq,Option.some.injEq] at w1;subst w1;rw [q3] at w3;simp only [Option.some.injEq,Obj.map.injEq] at w3;obtain ⟨rfl,rfl⟩:=w3;have hb:∀ a ∈ es,a.born < clock:=fun a ha=>by
  obtain ⟨i,h1,rfl⟩:=Array.mem_iff_getElem.1 ha;exact w5.1 i _ (Array.getElem?_eq_getElem h1)
 rcases Zi (P:=M.P) (t:=t) q1 q3 hb q5 q6 rfl with ⟨k1,k2⟩ | ⟨y,w',k1,k2,k3⟩
 ·left;refine ⟨fun i hi=>?_,Ao hI (x:=.tuple #[.bool false]) (AB k2) rfl ⟨_,rfl,⟨rfl,_,rfl,rfl⟩,trivial⟩⟩;have hi':i < es.size:=Aa;have:=(Array.filter_eq_empty_iff.1 k1) es[i] (Array.getElem_mem hi');exact (q7 i es[i] (Array.getElem?_eq_getElem hi')).1 (by simpa using this)
 ·right;obtain ⟨j1,j2⟩:=Array.mem_filter.1 k1;obtain ⟨i,hi,rfl⟩:=Array.mem_iff_getElem.1 j1;have hix:=Array.getElem?_eq_getElem hi;refine ⟨i,by omega,fun hf=>?_,?_⟩
  ·have:=(q7 i es[i] hix).2 hf;rw [this] at j2;cases j2
  ·have him:r ≠ e.ρ id:=fun h=>b3 (h ▸ w2);obtain ⟨e1,he1,hle1,hI1⟩:∃ e1:Env,e1={ e with w:=w' }∧e.le e1∧Inv M c e1 H:=by
    rcases k2 with rfl | rfl
    ·exact ⟨e,rfl,Env.le_refl e,hI⟩
    ·exact ⟨_,rfl,hI.drew.1,hI.drew.2⟩
   have hw':∀ b:Nat,w'.heap[b]?=e.w.heap[b]?:=fun b=>by rcases k2 with rfl | rfl <;> rfl
   subst he1;have hg1:({ e with w:=w' }:Env).w.heap[({ e with w:=w' }:Env).ρ id]?=some (.mapIter (some r) since seen last):=(hw' _).trans q1;have hle2:=Env.le_it (e:={ e with w:=w' }) (o:=.mapIter (some r) since (seen.push es[i].born) clock) hg1 rfl rfl b3;have hblk:C2 { e with w:=E8 w' (e.ρ id) (.mapIter (some r) since (seen.push es[i].born) clock) } id (itV (i + 1) m ks vs sz L (KP f i)):=by
    refine ⟨r,since,seen.push es[i].born,clock,es,clock,Mp hg1 _,Bx (Env.le_trans hle1 hle2) q2,(Cj _ him).trans ((hw' r).trans q3),q4,q5,Nat.le_refl _,fun j y hy=>?_,fun j hj=>⟨rfl,es[i],by rw [show j=i by omega];exact hix,by simp⟩⟩;unfold KP;by_cases hji:j=i
    ·subst hji;rw [hix] at hy;simp only [Option.some.injEq] at hy;subst hy;simp
    ·rw [if_neg hji,← q7 j y hy];have hne:y.born ≠ es[i].born:=fun h=>hji (w5.2 j i y es[i] hy hix h);simp [hne]
   obtain ⟨r1,r2⟩:=hI1.rowIt hh (o:=.mapIter (some r) since (seen.push es[i].born) clock) hg1 rfl rfl hblk;obtain ⟨⟨s1,s2⟩,s3,s4⟩:=w6 i es[i] hix;have hle:=Env.le_trans hle1 r1;refine ⟨.tuple #[.bool true,es[i].key,es[i].val],_,.inl (AB k3),hle,r2,⟨_,rfl,?_⟩,fun _ h=>.inl h⟩;have t1:RS e (ks i) es[i].key:=by unfold RS;exact s2
   have t2:RS e (vs i) es[i].val:=by unfold RS;exact s4
   exact ⟨⟨rfl,.bool true,rfl,rfl⟩,⟨s1,_,rfl,C6 hle t1⟩,⟨s3,_,rfl,C6 hle t2⟩,trivial⟩
theorem Zo {x:Ctx} {Q:List V→Hp→Nat→Prop} {k:List It} {N:Nat} {A:List V} {H:Hp} {d:Option Nat} {y:X} {ops:List LOp} {id o m:Nat} {ks vs:Nat→V} {sz L:Nat} {f:Nat→V}
 (hy:y.ev A = .ptr id []) (hh:Af H id=true) (hg:hget H id=itV o m ks vs sz L f)
 (h1:∀ i,i < m→f i ≠ .bool true→Ro M (fun A' H'=>F8 M x Q k (N + 16 * (ops.length + 1)) A' H') ops (N + 16) (put A d (nxV (ks i) (vs i))) (BC H id (itV (i + 1) m ks vs sz L (KP f i))))
 (h2:(∀ i,i < m→f i = .bool true)→Ro M (fun A' H'=>F8 M x Q k (N + 16 * (ops.length + 1)) A' H') ops (N + 16) (put A d (.tup (.fcons 0 (.bool false) .fnil))) H) :
 F8 M x Q (.code (.reg (⟨d,.lo (.nxt y),none⟩ :: ops)) :: k) N A H:=by
 intro a w kr hs hm;cases kr with
 | nil=>exact hm.elim
 | cons j r =>
   cases j <;> try (exact hm.elim)
   rename_i C;obtain ⟨hc,hm⟩:=hm;show C.wp M.P (C9 M x Q r) a w;cases C <;> simp only [Bw,Bool.false_eq_true] at hc;rename_i id' os draw;simp only [Bool.and_eq_true,beq_iff_eq] at hc;obtain ⟨rfl,hc⟩:=hc;obtain ⟨e,rfl,hI,hA,hD,hk,hdef⟩:=hs;refine wp_region_list ?_;generalize hl:os.toList=l at *
   cases l with
   | nil=>simp [Gb] at hc
   | cons o1 l =>
     simp only [Gb,Bool.and_eq_true,decide_eq_true_eq] at hc;obtain ⟨⟨⟨hd,hck⟩,hcg⟩,hcl⟩:=hc;have hgn:o1.guard=none:=by
      cases ho:o1.guard with
      | none=>rfl
      | some q=>rw [ho] at hcg;simp [NL] at hcg
     unfold wpList;have hw:Region.wanted o1 (yielded os a.tmps)=true:=by simp [Region.wanted,hgn]
     rw [if_pos hw];left;have AH:∀ A' H' a' e',Inv M x e' H'→FR e' A' a'.tmps→(∀ id,N + 16≤id→¬ e'.D id)→a'.defers=[]→Ro M (fun A' H'=>F8 M x Q k (N + 16 * (ops.length + 1)) A' H') ops (N + 16) A' H'→wpList M.P os (C9 M x Q r) l a' e'.w:=by
      intro A' H' a' e' hI' hA' hD' hdef' hR;refine K8 l ops (N + 16) A' H' e' a' hcl hI' hA' hD' Aa hdef' ?_ hR;intro A'' H'' N'' a'' w'' hs hN hKK;have:N''=N + 16 * (ops.length + 1):=Aa;subst this;exact hKK a'' w'' r hs hm
     simp only [Pe,R8] at hck;split at hck;case h_2=>cases hck
     rename_i x1 s hop;simp only [X5] at hck;obtain ⟨rfl,hck⟩:=hck;have hrun:(execOp a.eval o1).run M.P e.w=Sem.run M.P (do pure (Next.value (← Instr.next (a.eval x1) false o1.type)):Sem Next) e.w:=by
      unfold execOp;rw [hop]
     subst hd;have fin:∀ out:Out,Bm M x e N out (Sem.run M.P (do pure (Next.value (← Instr.next (a.eval x1) false o1.type)):Sem Next) e.w)→Ro M (fun A' H'=>F8 M x Q k (N + 16 * (ops.length + 1)) A' H') ops (N + 16) (put A o1.dst out.v) out.H →
      o1.wp M.P a e.w (wpList M.P os (C9 M x Q r) l) (C9 M x Q r):=by
      rintro out ⟨z,e',hz,hle,hI',hv,hD'⟩ hR;have hgo:wpList M.P os (C9 M x Q r) l (a.put o1.dst z) e'.w:=by
       refine AH _ _ _ e' hI' (Qk hle hA hv o1.dst) (fun id hid hd'=>?_) (by cases o1.dst <;> exact hdef) hR;rcases hD' id hd' with h1 | h1
       ·exact hD id Aa h1
       ·omega
      unfold Oper.wp;rw [hrun];rcases hz with hz | ⟨hz,hx⟩
      ·rw [hz];exact hgo
      ·subst hx;rw [hz];exact hgo
     rcases Vi hI hA (n:=N) (t:=o1.type) hck (Ct hI hck) hy hh hg with ⟨hall,hG⟩ | ⟨i,hi,hf,hG⟩
     ·exact fin _ hG (h2 hall)
     ·exact fin _ hG (h1 i hi hf)
end Mv
namespace Mv
open Go
variable {M:Seat}
def ZK (l:List (Nat × Nat)):V:=.fm l.length (fun j=>.int .i64 ((l.getD j (0,0)).1:Nat)) (fun j=>.int .i64 ((l.getD j (0,0)).2:Nat))
theorem Ji (l:List (Nat × Nat)):(ZK l).solid=true:=rfl
theorem Ju (l:List (Nat × Nat)):(ZK l).size=1:=rfl
theorem Jd (l:List (Nat × Nat)):(ZK l).isAgg=false:=rfl
theorem El (a:List Nat) (l:List (Nat × Nat)):(ZK l).ren a=ZK l:=rfl
theorem AI (H:Hp) (m z:List Nat) (l:List (Nat × Nat)):Aw H m z (ZK l) (ZK l)=True:=eq_true ⟨rfl,fun _ _=>⟨rfl,rfl⟩⟩
theorem Jj (H:Hp) (m z:List Nat) (l:List (BitVec 64)) (w:BitVec 64):Aw H m z (EN (l ++ [w])) (.ar 1 (l.length + 1) fun i=>if i < l.length then W (l.getD i 0#64) else if i - l.length=0 then W w else W 0#64)=True:=by
 refine eq_true ⟨⟨rfl,by simp⟩,fun i _=>?_⟩;simp only [VJ]
 repeat' split
 all_goals rfl
theorem Afd (l:List (BitVec 64)) (w:BitVec 64):(l ++ [w]).length=l.length + 1:=BF
def WT (o:Nat) (l:List (Nat × Nat)) (seen:Nat→Bool):V:=.tup (.fcons o (ZK l) (.ar 1 l.length fun i=>.bool (seen i)))
theorem Ac2 (a:List Nat) (o:Nat) (l:List (Nat × Nat)) (f:Nat→Bool):(WT o l f).ren a=WT o l f:=rfl
theorem SS (H:Hp) (m z:List Nat) (o:Nat) (l:List (Nat × Nat)) (f:Nat→Bool):Aw H m z (WT o l f) (WT o l f)=True:=eq_true ⟨rfl,⟨rfl,fun _ _=>⟨rfl,rfl⟩⟩,⟨rfl,rfl⟩,fun _ _=>rfl⟩
theorem VA (n:Nat) (l:List (Nat × Nat)) (H:Hp):Aln (ZK l) n H=⟨True,.ptr n [],(n,WT 0 l fun _=>false) :: H⟩:=rfl
theorem Ab4 (f:Nat→Bool) (i:Nat):(KP (fun j=>.bool (f j)) i)=fun j=>.bool (Fo f i j):=by funext j;unfold KP Fo;split <;> rfl
def Hh (w fr en bd st bk:Nat) (cs:List (Nat × Nat)) (S:Cd):V:=.st 12 (.fcons 0 (FC S.P) (.fcons 1 (.sl w [] 0 S.words.length 1) (.fcons 2 (.int .i64 S.base) (.fcons 3 (.int .i64 S.fn) (.fcons 4 (Ee fr S.frames.length) (.fcons 5 (Ee en S.entries.length) (.fcons 6 (ZK cs)
 (.fcons 7 (Ee bd S.bad.length) (.fcons 8 (Ee st S.steps.length) (.fcons 9 (Ee bk S.backs.length) (.fcons 10 (.int .i64 S.temps) (.fcons 11 (.int .i64 S.most) .fnil))))))))))))
theorem I4 (ok:OkCo M) (cs:List (Nat × Nat)) (S:Cd) (at' n:Nat) (h:at' < S.words.length) (hn:n < 1000000) :
 As M 407 [.ptr 0 [],.int .i64 at',.int .i64 n] [(0,Hh 1 2 3 5 6 7 cs S),(1,EN S.words)] 8
  (Q3 (.tup .fnil) [(0,Hh 1 2 3 5 6 7 cs (Ei S at' n)),(1,EN (Ei S at' n).words)] 8):=by
 have d0:(0≤(at':Int))=True:=eq_true Aa;have d1:((at':Int) < (S.words.length:Int))=True:=eq_true Aa;have wu:IntKind.u32.wrap (n:Int)=n:=by
  have e:IntKind.u32.wrap (n:Int)=(n:Int) % 4294967296:=Q0;rw [e];omega
 have hl:(Ei S at' n).words.length=S.words.length:=by simp [Ei]
 have hw:(Ei S at' n).words=S.words.set at' (S.words.getD at' 0#64 >>> 32 <<< 32 ||| BitVec.ofInt 64 n):=by simp only [Ei,O4,RY]
 simp only [Hh,EN,hl];rw [hw];refine Ac ok.k407 rfl fun x hx=>?_;refine eX ?_;simp only [Ad4,Ajk,Dk,Dl,Dj,DG,D0,DB,Ji,Ju,Jd,d0,d1,wu,LZ,seval];refine ⟨h,h,h,?_⟩;refine Ay.mkO hx [0,1,2,3,4,5,6,7] [] [0,1] _ _ _ (by simp only [AA,seval]) Ab (by (simp only [Dz,seval])) (by simp only [DK,seval]) ?_ ⟨rfl,rfl,rfl⟩;simp only [Ei,List.length_set,Ak,AI,LH,Ai,LY,seval];intro i _;rw [Af2 _ _ _ h]
 repeat' split
 all_goals rfl
theorem Q7 (ok:OkCo M) (cs:List (Nat × Nat)) (S:Cd) (at':Nat) (h:at' < S.words.length) (hm:S.words.length < 1000000) :
 As M 408 [.ptr 0 [],.int .i64 at'] [(0,Hh 1 2 3 5 6 7 cs S),(1,EN S.words)] 8
  (Q3 (.tup .fnil) [(0,Hh 1 2 3 5 6 7 cs (Ga S at')),(1,EN (Ga S at').words)] 8):=by
 have hP:=I4 ok cs S at' S.words.length h hm;unfold Ga;generalize Ei S at' S.words.length=T at *
 simp only [Hh] at hP ⊢;refine Ac ok.k408 rfl fun x hx=>?_;refine eX ?_;simp only [Abv,Ait,Dk,Dl,Dj,DG,D0,DB,Ji,Ju,Jd,LZ,seval];refine Ah [0,1,2,3,4,5,6,7] [0,1] [0,1] (hP) (by simp only [Ak,Ae,AI,AA,seval]) Ab (by ((try simp only [Ak,Ae,AI,LH,Ai,LY,seval]);first | done | exact True.intro | rfl)) (by ((try simp only [Ak,Ae,AI,LH,Ai,LY,seval]);first | done | exact True.intro | rfl)) ?_;simp only [Ad,El,Ae,LH,Ai,AW,seval];refine Ay.mkO hx [0,1,2,3,4,5,6,7] [] [0,1] _ _ _ (by simp only [Ak,Ae,AI,AA,seval]) Ab (by (simp only [Dz,Ak,Ae,AI,LH,Ai,seval])) (by ((try simp only [DK,Ak,Ae,AI,LH,Ai,seval]);first | done | exact True.intro | (intros;rfl))) (by ((try simp only [Ak,Ae,AI,LH,Ai,LY,seval]);first | done | exact True.intro | (intros;rfl))) ⟨rfl,rfl,rfl⟩
theorem PH (ok:OkCo M) (P:List Fu) (base n:Int) (h2:-2147483648≤n∧n < 2147483648) :
 As M 405 [.ptr 0 [],.int .i64 26,.int .i64 14,.int .i64 0,.int .i64 0,.int .i64 0,.int .i64 n]
  [(0,.st 12 (.fcons 0 (FC P) (.fcons 1 .nils (.fcons 2 (.int .i64 base) (.fcons 3 (.int .i64 0) (.fcons 4 .nils (.fcons 5 .nils (.fcons 6 (.map 1) (.fcons 7 .nils (.fcons 8 .nils (.fcons 9 .nils (.fcons 10 (.int .i64 0) (.fcons 11 (.int .i64 0) .fnil)))))))))))))] 2
  (Q3 (.int .i64 0) [(0,.st 12 (.fcons 0 (FC P) (.fcons 1 (.sl 2 [] 0 1 1) (.fcons 2 (.int .i64 base) (.fcons 3 (.int .i64 0) (.fcons 4 .nils (.fcons 5 .nils (.fcons 6 (.map 1) (.fcons 7 .nils (.fcons 8 .nils (.fcons 9 .nils (.fcons 10 (.int .i64 0) (.fcons 11 (.int .i64 0) .fnil))))))))))))),(2,EN [Bn 26 14 0 0 0 n])] 3):=by
 have hC:=Gr ok.i 26 14 0 0 0 n Ab Ab Ab Ab Ab h2;simp only [Int.natCast_zero] at hC;have e14:((14:Nat):Int)=14:=rfl;rw [e14] at hC;generalize Bn 26 14 0 0 0 n=w at *
 refine Ac ok.k405 rfl fun x hx=>?_;refine eX ?_;simp only [PA,YS,LZ,seval];refine Ap (hC) ?_;have z0:IntKind.i64.wrap 0=0:=rfl;simp only [EM,z0,Dk,Dl,Dj,seval];refine Ay.mk hx [0,1,322] [] (.int .i64 0) _ 3 Ab (by (simp only [Dz,seval])) (by simp only [DK,seval]) ?_ ⟨rfl,rfl,rfl⟩;simp only [Ak,EN,List.length_cons,List.length_nil,LY,seval];intro j hj;obtain rfl:j=0:=Aa;simp only [List.getD_cons_zero,if_true,LY,seval]
def Pi (cs:List (Nat × Nat)) (S:Cd):Hp:=(0,Hh 8 9 10 11 12 13 cs S) :: (8,EN S.words) :: BR S.frames.length 9 (BO S.frames) (BR S.entries.length 10 (BO S.entries) (BR S.bad.length 11 (BO S.bad) []))
structure OkCd (M:Seat):Prop where
 fu:OkFu M
 k306:Ar M 306 Xu=true
theorem Gi {P:List Fu} {i:Nat} (h:i < P.length):(P.getD i MG).body=(P[i]).body:=by rw [List.getD_eq_getElem?_getD,List.getElem?_eq_getElem h];rfl
theorem IA (ok:OkCd M) (P:List Fu) (c:Nat→Nat) (hP:RgP P c) (base:Int) (hba:512≤base∧base < 1000000) :
 As M 306 [FC P,.int .i64 base] [] 0 (Q3 (.ptr 0 []) ((0,Hh 1 2 3 5 6 7 (CR P (BJ P base) P.length).calls (Bj P base)) :: (1,EN (Bj P base).words) :: BR (Bj P base).frames.length 2 (BO (Bj P base).frames) []) 8):=by
 have w0:IntKind.i64.wrap (base - 512)=base - 512:=Pt;have h1:=PH ok.fu.co P base (base - 512) Aa;have hne:=hP.ne;have hlen:=hP.len;refine Ac ok.k306 rfl fun x hx=>?_;refine eX ?_;simp only [Xu,Ag0,Dk,Dl,Dj,w0,AW,seval];refine Ah [80,48] [80] [0] (h1) (by simp only [Ak,Ae,AA,seval]) Ab (by ((try simp only [Ak,Ae,LH,Ai,LY,seval]);first | done | exact True.intro | rfl)) (by ((try simp only [Ak,Ae,LH,Ai,LY,seval]);first | done | exact True.intro | rfl)) ?_;have hL:=BD P hne;have hsl:∀ H m z,Aw H m z (.lst 3 P.length (BW P)) (.lst 3 P.length (BW P))=True:=fun H m z=>by rw [← hL];exact eq_true (En H m z P)
 simp only [Ad,H7,Ae,AW,hL,seval];have hpar:∀ j,Db P j≤24:=fun j=>by
  by_cases hj:j < P.length
  ·have:=hP.par j hj;omega
  ·unfold Db;rw [List.getElem?_eq_none Aa];decide
 have hbo:∀ j,j < P.length→RB P j 16 (P.getD j MG).body (c j):=fun j hj=>by rw [Gi hj];exact hP.body j hj
 have hlo:∀ j,j < P.length→0≤Bi P j∧Bi P j≤24:=fun j hj=>by have:=hP.par j hj;omega
 have hsu:((List.range P.length).map c).sum=Be c P.length:=rfl;have hsum:=hP.sum;rw [hsu] at hsum;refine Au (σ:=Nat) (fun j=>j≤P.length) (fun j=>fr 72 [(5,.ptr 0 []),(21,.int .i64 P.length),(22,.int .i64 j)]) (fun j=>Vc (CR P (BJ P base) j)) (fun _=>14) (fun j=>P.length - j) 0 (Nat.zero_le _) ?_ ?_
 ·have q1:(BJ P base).words=[Bn 26 14 0 0 0 (base - 512)]:=rfl;have q2:(BJ P base).P=P∧(BJ P base).base=base∧(BJ P base).fn=0∧(BJ P base).frames=[]∧(BJ P base).entries=[]∧(BJ P base).calls=[]∧(BJ P base).bad=[]∧(BJ P base).steps=[]∧(BJ P base).backs=[]∧(BJ P base).temps=0∧(BJ P base).most=0:=⟨rfl,rfl,rfl,rfl,rfl,rfl,rfl,rfl,rfl,rfl,rfl⟩
  simp only [CR,Vc,Bz,q1,q2,hL,List.length_nil,List.length_cons,I1,SD,Nat.zero_add,Int.natCast_zero];refine Av.frO [80,1,2,3,48,5,6,7,160,9,10,11,12,13] [] [0,4,8] hx Bg Ab (by simp only [AA,seval]) ?_ ?_
  ·simp only [Int.natCast_zero,LH,Ai,LY,seval]
  ·simp only [hsl,Ae,LH,Ai,Ci,LB,Nat.not_lt_zero,false_implies,LY,seval];exact ⟨rfl,fun i hi=>absurd hi BF⟩
 intro j hj;have hI:=Ng P base c hbo hlo hsum j hj;have hw:=hI.wf;by_cases hin:j=P.length
 ·subst hin;have d2:((P.length:Int) < (P.length:Int))=False:=eq_false Aa;have hcod:Bj P base=IW (G1 (Dv (CR P (BJ P base) P.length) (CR P (BJ P base) P.length).calls (CR P (BJ P base) P.length).entries (fun _=>true) (CR P (BJ P base) P.length).calls.length) (Dv (CR P (BJ P base) P.length) (CR P (BJ P base) P.length).calls (CR P (BJ P base) P.length).entries (fun _=>true) (CR P (BJ P base) P.length).calls.length).bad (Dv (CR P (BJ P base) P.length) (CR P (BJ P base) P.length).calls (CR P (BJ P base) P.length).entries (fun _=>true) (CR P (BJ P base) P.length).calls.length).bad.length) 18446744073709551615#64:=rfl;generalize Bj P base=G at *
  generalize CR P (BJ P base) P.length=F at *
  refine F8.weak (fr 72 [(5,.ptr 0 []),(21,.int .i64 P.length),(22,.int .i64 P.length)]) ((0,Hh 8 9 10 11 12 13 F.calls F) :: (8,EN F.words) :: BR F.frames.length 9 (BO F.frames) (BR F.entries.length 10 (BO F.entries) (BR F.bad.length 11 (BO F.bad) []))) 14 ?_ ?_
  ·refine Av.frO [0,1,2,3,999,5,6,7,8,9,10,11,12,13] [4] [0,8,9,10,11] hx Bg Ab (by simp only [AA,seval]) ?_ ?_
   ·simp only [LH,Ai,LY,seval]
   ·simp only [Vc,Hh,Bz,Ak,Ae,LH,Ai,Ci,LY,seval];exact ⟨rfl,rfl,fun _ _=>⟨rfl,rfl⟩⟩
  refine eX ?_;simp only [Hh];simp only [d2,VA,Ji,Ju,Jd,LZ,seval];refine Au (σ:=Nat × (Nat→Bool)) (fun _=>True) (fun _=>fr 72 [(5,.ptr 0 []),(33,.ptr 14 [])]) (fun s=>(14,WT s.1 F.calls s.2) :: Pi F.calls (Dv F F.calls F.entries s.2 F.calls.length)) (fun _=>15) (fun s=>DS s.2 F.calls.length) (0,fun _=>false) trivial ?_ ?_
  ·simp only [Pk,Pi,Hh];refine Av.frO [0,1,2,3,4,5,6,7,8,9,10,11,12,13,94] [] [0,8,9,10,11,14] hx Bg Ab (by simp only [AA,seval]) ?_ ?_
   ·simp only [LH,Ai,LY,seval]
   ·simp only [Ak,AI,SS,Ae,LH,Ai,Ci,LY,seval]
  rintro ⟨o,seen⟩ _;refine es 1 ?_;simp only [LZ,seval];refine Zo (id:=14) (o:=o) (m:=F.calls.length) (ks:=fun j=>.int .i64 ((F.calls.getD j (0,0)).1:Nat)) (vs:=fun j=>.int .i64 ((F.calls.getD j (0,0)).2:Nat)) (sz:=1) (L:=F.calls.length) (f:=fun i=>.bool (seen i)) (by simp only [LZ,seval]) rfl rfl (fun i hi hs=>?_) (fun hs=>?_)
  ·have hsi:seen i=false:=by cases h:seen i with | false=>rfl | true=>rw [h] at hs;exact absurd rfl hs
   have hit:itV (i + 1) F.calls.length (fun j=>.int .i64 ((F.calls.getD j (0,0)).1:Nat)) (fun j=>.int .i64 ((F.calls.getD j (0,0)).2:Nat)) 1 F.calls.length (KP (fun i=>.bool (seen i)) i)=WT (i + 1) F.calls (Fo seen i):=by
    unfold itV WT;rw [Ab4];rfl
   rw [hit];have hve:∀ H',Apa (.ptr 14 []) ((14,WT (i + 1) F.calls (Fo seen i)) :: H')=⟨Af ((14,WT (i + 1) F.calls (Fo seen i)) :: H') 14=true∧0 < i + 1∧i + 1≤F.calls.length,.tup (.fcons 0 (.int .i64 ((F.calls.getD i (0,0)).1:Nat)) (.fcons 1 (.int .i64 ((F.calls.getD i (0,0)).2:Nat)) .fnil)),(14,WT (i + 1) F.calls (Fo seen i)) :: H'⟩:=fun H'=>rfl;have hkm:F.calls.getD i (0,0) ∈ F.calls:=by rw [List.getD_eq_getElem?_getD,List.getElem?_eq_getElem hi];exact List.getElem_mem hi
   have hk1:=hw.ck _ hkm;have hk2:=hI.cq _ hkm;have hpa:=FW F F.calls F.entries seen F.calls.length;have hps:=SN F F.calls F.entries seen i hsi F.calls.length hi (fun q hq hqi=>Am3 hw.cs hq hi hqi);have hun:=JH seen i hsi F.calls.length hi;have hen:=hpa.2.2.2.2.1;have hwl:=hpa.2.2.2.2.2.2.2.2.2.2.2;have hen0:F.entries.length ≠ 0:=by rw [hI.en];intro h;exact hne (List.length_eq_zero_iff.1 h)
   have d3:(0≤(((F.calls.getD i (0,0)).2:Nat):Int))=True:=eq_true Aa;have d4:((((F.calls.getD i (0,0)).2:Nat):Int) < (F.entries.length:Int))=True:=eq_true (by rw [hI.en];omega);have hnl:BO F.entries = .ar 1 F.entries.length fun j=>.int .i64 (F.entries.getD j 0:Nat):=rfl;generalize Dv F F.calls F.entries seen F.calls.length=T at *
   simp only [Pi,Hh,nxV];simp only [LZ,seval];refine eX ?_;simp only [Ae0,hve,hen,AD hen0,CK hen0,hnl,LH,Ai,d3,d4,Ji,Ju,Jd,LZ,seval];refine ⟨by omega,by omega,by rw [hI.en];exact hk2,?_⟩;have hev:F.entries.getD (F.calls.getD i (0,0)).2 0 < 1000000:=by
    have h2:(F.calls.getD i (0,0)).2 < F.entries.length:=by rw [hI.en];exact hk2
    rw [List.getD_eq_getElem?_getD (l:=F.entries),List.getElem?_eq_getElem h2];have h3:=hI.ev _ (List.getElem_mem h2);have:=hI.wo;simp only [Option.getD_some];omega
   have hPt:=I4 ok.fu.co F.calls T (F.calls.getD i (0,0)).1 (F.entries.getD (F.calls.getD i (0,0)).2 0) Aa hev;simp only [Hh,LPt,hen] at hPt;refine Ah [0,8,9,10,4,11,12,13] [0,8] [0,1] (hPt) (by simp only [Ak,AI,Ae,AD hen0,AA,seval]) Ab (by ((try simp only [Ak,AI,Ae,AD hen0,LH,Ai,LY,seval]);first | done | exact True.intro | rfl)) (by ((try simp only [Ak,AI,Ae,AD hen0,LH,Ai,LY,seval]);first | done | exact True.intro | rfl)) ?_;simp only [Ad,El,Ac2,Ae,LH,Ai,AW,AD hen0,seval];refine ⟨(i + 1,Fo seen i),hun,?_⟩;dsimp only;rw [hps];simp only [LPt,hen,← hnl];refine Av.frO [0,1,2,3,4,5,6,7,8,9,10,11,12,13,14] [] [0,8,9,10,11,14] hx Bg Ab (by simp only [AA,seval]) ?_ ?_
   ·simp only [LH,Ai,LY,seval]
   ·simp only [Ak,AI,SS,AD hen0,CK hen0,Ae,LH,Ai,Ci,LY,seval]
  ·have hpa:=Aby F F.calls F.entries seen F.calls.length (fun i hi=>by have:=hs i hi;simpa using this);rw [hpa];have hpq:=FW F F.calls F.entries (fun _=>true) F.calls.length;have hAb:=hpq.2.2.2.2.2.2.1;have hAw:=hpq.2.2.2.2.2.2.2.2.2.2.2;have hAf:=hpq.2.2.2.1;generalize Dv F F.calls F.entries (fun _=>true) F.calls.length=A at *
   simp only [Pi,Hh];simp only [LZ,seval];refine eX ?_;simp only [ER,DG,D0,DB,LZ,seval];refine Au (σ:=Nat) (fun j=>j≤A.bad.length) (fun j=>fr 72 [(5,.ptr 0 []),(52,Ee 11 A.bad.length),(53,.int .i64 A.bad.length),(54,.int .i64 j)]) (fun j=>Pi F.calls (G1 A A.bad j)) (fun _=>14) (fun j=>A.bad.length - j) 0 (Nat.zero_le _) ?_ ?_
   ·simp only [G1,Pi,Hh];refine Av.frO [0,1,2,3,4,5,6,7,8,9,10,11,12,13] [] [0,8,9,10,11] hx Bg Ab (by simp only [AA,seval]) ?_ ?_
    ·simp only [Int.natCast_zero,LH,Ai,LY,seval]
    ·simp only [Ak,AI,Ae,LH,Ai,Ci,LY,seval]
   intro j hj;refine eX ?_;have hhe:=Ka A A.bad j;have hhb:=hhe.2.2.2.2.2.2.1;have hhw:=hhe.2.2.2.2.2.2.2.2.2.2.2;have hwo:=hI.wo;by_cases hin:j=A.bad.length
   ·subst hin;have d3:((A.bad.length:Int) < (A.bad.length:Int))=False:=eq_false Aa;generalize G1 A A.bad A.bad.length=B at *
    have hG1:G.P=B.P∧G.base=B.base∧G.fn=B.fn∧G.frames=B.frames∧G.entries=B.entries∧G.bad=B.bad∧G.steps=B.steps∧G.backs=B.backs∧G.temps=B.temps∧G.most=B.most:=by
     rw [hcod];exact ⟨rfl,rfl,rfl,rfl,rfl,rfl,rfl,rfl,rfl,rfl⟩
    have hG2:G.words=B.words ++ [18446744073709551615#64]:=by rw [hcod];rfl
    have hnl:EN B.words = .ar 1 B.words.length fun j=>W (B.words.getD j 0#64):=rfl;simp only [Pi,Hh,hnl];simp only [d3,LZ,seval];refine ⟨by omega,?_⟩;simp only [hG1,hG2,Afd,LH,Ai,CT];refine Ay.mkO hx [0,126,9,10,4,11,12,13] [] [0,1,2] _ _ _ (by simp only [Ak,AI,Jj,Ae,Ci,AA,seval]) Ab (by (simp only [Dz,Ak,AI,Jj,Ae,Ci,LH,Ai,seval])) (by ((try simp only [DK,Ak,AI,Jj,Ae,Ci,LH,Ai,seval]);first | done | exact True.intro | (intros;rfl))) (by ((try simp only [Ak,AI,Jj,Ae,Ci,LH,Ai,LY,seval]);first | done | exact True.intro | (intros;rfl))) ⟨rfl,rfl,rfl⟩
   ·have d3:((j:Int) < (A.bad.length:Int))=True:=eq_true Aa;have d4:(0≤(j:Int))=True:=eq_true Aa;have hlt:j < A.bad.length:=Aa;have hne2:A.bad.length ≠ 0:=Aa;have hnl:BO A.bad = .ar 1 A.bad.length fun j=>.int .i64 (A.bad.getD j 0:Nat):=rfl;have w2:IntKind.i64.wrap ((j:Int) + 1)=((j + 1:Nat):Int):=by have:=hw.bl;rw [hAb] at hj;rw [AR Aa];omega
    have hn1:G1 A A.bad (j + 1)=Ga (G1 A A.bad j) (A.bad.getD j 0):=rfl;have hat:A.bad.getD j 0 < A.words.length:=by
     rw [hAw,hAb];rw [hAb] at hlt;rw [List.getD_eq_getElem?_getD,List.getElem?_eq_getElem hlt];exact hw.bk _ (List.getElem_mem hlt)
    generalize G1 A A.bad j=T1 at *
    have h4:=Q7 ok.fu.co F.calls T1 (A.bad.getD j 0) Aa Aa;simp only [Pi,Hh,LHe,hhb] at h4 ⊢;simp only [d3,d4,AD hne2,CK hne2,hnl,LH,Ai,LZ,seval];refine ⟨hlt,?_⟩;refine Ah [0,8,9,10,4,11,12,13] [0,8] [0,1] (h4) (by simp only [Ak,AI,Ae,AD hne2,AA,seval]) Ab (by ((try simp only [Ak,AI,Ae,AD hne2,LH,Ai,LY,seval]);first | done | exact True.intro | rfl)) (by ((try simp only [Ak,AI,Ae,AD hne2,LH,Ai,LY,seval]);first | done | exact True.intro | rfl)) ?_;simp only [Ad,El,Ae,LH,Ai,AW,AD hne2,w2,seval];refine ⟨j + 1,by omega,by omega,?_⟩;rw [hn1];simp only [LHe,hhb,← hnl];refine Av.frO [0,1,2,3,4,5,6,7,8,9,10,11,12,13] [] [0,8,9,10,11] hx Bg Ab (by simp only [AA,seval]) ?_ ?_
    ·simp only [AD hne2,LH,Ai,LY,seval]
    ·simp only [AD hne2,CK hne2,Ak,AI,Ae,LH,Ai,Ci,LY,seval]
 ·refine eX ?_;have hlt:j < P.length:=Aa;have d2:((j:Int) < (P.length:Int))=True:=eq_true Aa;have w2:IntKind.i64.wrap ((j:Int) + 1)=((j + 1:Nat):Int):=B7;have hn1:CR P (BJ P base) (j + 1)=IY (CR P (BJ P base) j) j (Db P j).toNat (Bi P j).toNat (P.getD j MG).body:=rfl;have hp:=hP.par j hlt;have hsl:=DF c hlt;have hF:=Kx ok.fu P Aa hpar j (Db P j).toNat (Bi P j).toNat hlt Aa Aa Aa Aa (c j) (hP.body j hlt) (CR P (BJ P base) j) hI.eP hw (by have:=hI.wo;omega) Aa (by rw [hI.eb];omega) (by rw [hI.fr];omega) (by rw [hI.en];omega);rw [← Gi hlt,← hn1] at hF;generalize CR P (BJ P base) j=T at *
  simp only [Ajr,Vc,Bz] at hF ⊢;simp only [d2,LZ,seval];refine Ah [0,8,9,10,4,11,12,13] [0,8,4,9,10,11] [0,1,4,2,3,5] (hF) (by simp only [Ak,Ae,AA,seval]) Ab (by ((try simp only [Ak,Ae,LH,Ai,LY,seval]);first | done | exact True.intro | rfl)) (by ((try simp only [Ak,Ae,LH,Ai,LY,seval]);first | done | exact True.intro | rfl)) ?_;simp only [Ad,Ae,LH,Ai,AW,w2,seval];refine ⟨j + 1,by omega,by omega,?_⟩;refine Av.frO [0,1,2,3,4,5,6,7,94,95,96,97,98,99] [] [0,4,8,9,10,11] hx Bg Ab (by simp only [AA,seval]) ?_ ?_
  ·simp only [LH,Ai,LY,seval]
  ·simp only [Ak,Ae,LH,Ai,Ci,LY,seval]
end Mv
