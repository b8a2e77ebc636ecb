/- A part. -/
import Derived.Test.YtgeionenpaopaaaGreatDoorBG
set_option linter.all false
set_option maxHeartbeats 4000000
set_option maxRecDepth 20000
namespace Mv
open Go
variable {M:Seat}
def E8 (w:World) (g:Nat) (o:Obj):World:={ w with heap:=w.heap.setIfInBounds g o }
theorem Mp {w:World} {g:Nat} {o0:Obj} (hg:w.heap[g]?=some o0) (o:Obj):(E8 w g o).heap[g]?=some o:=by
 have:=(Array.getElem?_eq_some_iff.1 hg).1;simp [E8,this]
theorem Cj {w:World} {g b:Nat} (o:Obj) (h:b ≠ g):(E8 w g o).heap[b]?=w.heap[b]?:=by
 simp [E8,Array.getElem?_setIfInBounds_ne (Ne.symm h)]
def O1:Obj→Bool
 | .mapIter ..=>true
 | _=>false
theorem Kj {w:World} {g:Nat} {o0 o:Obj} (hg:w.heap[g]?=some o0) (h0:O1 o0=true) (h1:O1 o=true) (b:Nat):BM (E8 w g o) b=BM w b:=by
 unfold BM;by_cases h:b=g
 ·subst h;rw [Mp hg,hg];cases o0 <;> simp [O1] at h0;cases o <;> simp [O1] at h1;rfl
 ·rw [Cj o h]
theorem Env.le_it {e:Env} {g:Nat} {o0 o:Obj} (hg:e.w.heap[g]?=some o0) (h0:O1 o0=true) (h1:O1 o=true) (him:¬ e.im g) :
 e.le { e with w:=E8 e.w g o } where
 D _ hi:=⟨hi,rfl⟩
 im b hb:=⟨hb,fun c el fz hc=>⟨el,fz,by
  show (E8 e.w g o).heap[b]?=_
  rw [Cj _ (fun h':b=g=>him (h' ▸ hb))];exact hc⟩,fun es' ck hc=>by
  show (E8 e.w g o).heap[b]?=_
  rw [Cj _ (fun h':b=g=>him (h' ▸ hb))];exact hc⟩
 sz b:=Nat.le_of_eq (Kj hg h0 h1 b).symm
 φ:=rfl
 τ:=rfl
theorem Inv.rowIt {c:Ctx} {e:Env} {H:Hp} (h:Inv M c e H) {id:Nat} (hid:Af H id=true) {o0 o:Obj} (hg:e.w.heap[e.ρ id]?=some o0) (h0:O1 o0=true) (h1:O1 o=true) {z:V}
 (hz:C2 { e with w:=E8 e.w (e.ρ id) o } id z) :
 e.le { e with w:=E8 e.w (e.ρ id) o }∧Inv M c { e with w:=E8 e.w (e.ρ id) o } (BC H id z):=by
 obtain ⟨hD,_,him,hO⟩:=h.blk id hid;have hle:=Env.le_it hg h0 h1 him;refine ⟨hle,?_,?_,?_,h.imo,?_,?_,h.keep,h.low,h.gs.mono hle,h.φ,h.τ⟩
 ·refine h.ev.trans (O':=fun b=>b=e.ρ id) ⟨rfl,rfl,rfl,by simp [E8],fun b _ hb=>Cj _ hb,fun b=>Nat.le_of_eq (Kj hg h0 h1 b).symm⟩ ?_;rintro i rfl;exact hO
 ·intro j hj;rw [Cs] at hj;obtain ⟨k1,k2,k3,k4⟩:=h.blk j hj;refine ⟨k1,?_,k3,k4⟩;by_cases hji:j=id
  ·subst hji;rw [Ck _ _ _ hj];exact hz
  ·rw [BL _ _ _ hji];refine D5 hle k1 ?_ k2;exact Cj _ (fun hne=>hji (h.inj j id hj hid hne))
 ·intro i j hi hj;rw [Cs] at hi hj;exact h.inj i j hi hj
 ·intro b hb;rcases h.imb b hb with ⟨cells,el',fz,hc⟩ | ⟨es',ck,hc⟩
  ·exact .inl ⟨cells,el',fz,by show (E8 e.w (e.ρ id) o).heap[b]?=_;rw [Cj _ (fun h':b=e.ρ id=>him (h' ▸ hb))];exact hc⟩
  ·exact .inr ⟨es',ck,by show (E8 e.w (e.ρ id) o).heap[b]?=_;rw [Cj _ (fun h':b=e.ρ id=>him (h' ▸ hb))];exact hc⟩
 ·intro j hj;show e.ρ j < (E8 e.w (e.ρ id) o).heap.size;simp only [E8,Array.size_setIfInBounds];exact h.rb j hj
def itV (o m:Nat) (ks vs:Nat→V) (sz L:Nat) (f:Nat→V):V:=.tup (.fcons o (.fm m ks vs) (.ar sz L f))
def nxV (k v:V):V:=.tup (.fcons 0 (.bool true) (.fcons 1 k (.fcons 2 v .fnil)))
def KP (f:Nat→V) (i j:Nat):V:=if j=i then .bool true else f j
theorem Rc {es:Array MapEntry} {p:MapEntry→Bool} (h:∀ a ∈ es,p a=true):es.filter p=es:=by
 rw [Array.filter_eq_self];exact h
theorem Vd {P:Program} {w:World} {g:Nat} {a:Option Nat} {b d:Nat} {c:Array Nat} (hb:w.heap[g]?=some (.mapIter a b c d)):(getObj g).run P w = .ok (.mapIter a b c d) w:=by simp [getObj,Sem.run,hb]
theorem LI {P:Program} {w:World} {g:Nat} {a:Option Nat} {b d:Nat} {c:Array Nat} (hb:w.heap[g]?=some (.mapIter a b c d)) (o:Obj):(setObj g o).run P w = .ok () (E8 w g o):=by simp [setObj,Sem.run,hb,E8]
theorem Zi {P:Program} {w:World} {g r:Nat} {since last clock:Nat} {seen:Array Nat} {es left:Array MapEntry} {t:TypeId} (h1:w.heap[g]?=some (.mapIter (some r) since seen last)) (h2:w.heap[r]?=some (.map es clock))
 (hb:∀ a ∈ es,a.born < clock) (hs:clock≤since) (hl:clock≤last) (hf:es.filter (fun e=>!seen.contains e.born)=left) :
 (left = #[]∧(Instr.next (.pointer (some ⟨g,0,none⟩)) false t).run P w = .ok (.tuple #[.bool false]) w) ∨
 ∃ x w1,x ∈ left∧(w1=w ∨ w1=w.drew)∧(Instr.next (.pointer (some ⟨g,0,none⟩)) false t).run P w = .ok (.tuple #[.bool true,x.key,x.val]) (E8 w1 g (.mapIter (some r) since (seen.push x.born) clock)):=by
 have e1:(!seen.isEmpty && !es.isEmpty && es.all (fun x=>decide (x.born ≥ last)))=false:=by
  cases he:es.isEmpty with
  | true=>simp
  | false =>
    have:es.all (fun x=>decide (x.born ≥ last))=false:=by
     rw [Array.all_eq_false];have hne:0 < es.size:=by
      rcases Nat.eq_zero_or_pos es.size with h | h
      ·simp [Array.isEmpty,h] at he
      ·exact h
     exact ⟨0,hne,by have:=hb es[0] (Array.getElem_mem hne);simp;omega⟩
    rw [this];simp
 have hle:∀ a ∈ left,a.born < since:=fun a ha=>by
  rw [← hf] at ha;have:=hb a (Array.mem_filter.1 ha).1;omega
 have e2:left.filter (fun x=>decide (x.born < since))=left:=Rc fun a ha=>by simpa using hle a ha
 have e3:left.filter (fun x=>decide (x.born ≥ since)) = #[]:=by
  rw [Array.filter_eq_empty_iff];intro a ha;have:=hle a ha;simp;omega
 have key:(Instr.next (.pointer (some ⟨g,0,none⟩)) false t).run P w=((choose (.mapNext ((if left.isEmpty then #[none] else #[]) ++ left.map some).size)).run P w).andThen fun i w1 =>
  Sem.run P (match ((if left.isEmpty then #[none] else #[]) ++ left.map some)[i]? with
   | some (some e) => do
     setObj g (.mapIter (some r) since (seen.push e.born) clock)
     pure (.tuple #[.bool true,e.key,e.val])
   | some none=>pure (.tuple #[.bool false])
   | none => stuck "Next: no such candidate") w1 := by
  unfold Instr.next;simp only [QP,Vd h1,DQ h2,e1,O3,hf,e2,e3,Array.append_empty];rfl
 rw [key];rcases Nat.eq_zero_or_pos left.size with h0 | h0
 ·have h0:left = #[]:=Array.eq_empty_of_size_eq_zero h0;subst h0;left;refine ⟨rfl,?_⟩;simp [run_choose,Question.forced,Result.andThen]
 ·right;have he:left.isEmpty=false:=by
   cases hq:left.isEmpty with
   | false=>rfl
   | true=>simp at hq;simp [hq] at h0
  simp only [he,O3,Array.empty_append,Array.size_map,run_choose];split
  ·rename_i hq;refine ⟨left[0],w,Array.getElem_mem h0,.inl rfl,?_⟩;simp only [EP,Array.getElem?_map,Array.getElem?_eq_getElem h0,Option.map_some,LI h1]
  ·rename_i hq;have hlt:Question.cut (.mapNext left.size) (w.tape w.drawn (.mapNext left.size)) < left.size:=Nat.mod_lt _ h0;generalize Question.cut (.mapNext left.size) (w.tape w.drawn (.mapNext left.size))=j at *
   refine ⟨left[j],w.drew,Array.getElem_mem hlt,.inr rfl,?_⟩;have h1':w.drew.heap[g]?=some (.mapIter (some r) since seen last):=h1;simp only [EP,Array.getElem?_map,Array.getElem?_eq_getElem hlt,Option.map_some];show (((setObj g _).run P w.drew).andThen fun a w'=>Result.ok _ w')=_;rw [LI h1'];rfl
theorem Vi {c:Ctx} {e:Env} {H:Hp} {A:List V} {a:Act} (hI:Inv M c e H) (hA:FR e A a.tmps) {n:Nat} {t:TypeId} {x1:Operand} {y1:X}
 (h1:A3 M x1 y1=true) (g1:CJ M e y1) {id o m:Nat} {ks vs:Nat→V} {sz L:Nat} {f:Nat→V} (hy:y1.ev A = .ptr id []) (hh:Af H id=true) (hg:hget H id=itV o m ks vs sz L f) :
 ((∀ i,i < m→f i = .bool true)∧Bm M c e n ⟨True,.tup (.fcons 0 (.bool false) .fnil),H⟩ (Sem.run M.P (do pure (Next.value (← Instr.next (a.eval x1) false t)):Sem Next) e.w)) ∨
 ∃ i,i < m∧f i ≠ .bool true∧Bm M c e n ⟨True,nxV (ks i) (vs i),BC H id (itV (i + 1) m ks vs sz L (KP f i))⟩ (Sem.run M.P (do pure (Next.value (← Instr.next (a.eval x1) false t)):Sem Next) e.w):=by
 have v1:=Az hI.φ hA h1 g1;rw [hy] at v1;generalize a.eval x1=x at *
 obtain ⟨b1,b2,b3,b4⟩:=hI.blk id hh;rw [hg] at b2;obtain ⟨r,since,seen,last,es,clock,q1,q2,q3,q4,q5,q6,q7,q8⟩:=b2;have v1:R e (.ptr id []) [x]:=v1;simp only [R,E0,At] at v1;obtain ⟨-,rfl⟩:=v1;have q2':=q2;simp only [R] at q2';obtain ⟨r',es',ck',w1,w2,w3,w4,w5,w6⟩:=q2';simp only [E0,Value.map.injEq,Option.some.injEq] at w1;subst w1;rw [q3] at w3;simp only [Option.some.injEq,Obj.map.injEq] at w3;obtain ⟨rfl,rfl⟩:=w3;have hb:∀ a ∈ es,a.born < clock:=fun a ha=>by
  obtain ⟨i,h1,rfl⟩:=Array.mem_iff_getElem.1 ha;exact w5.1 i _ (Array.getElem?_eq_getElem h1)
 rcases Zi (P:=M.P) (t:=t) q1 q3 hb q5 q6 rfl with ⟨k1,k2⟩ | ⟨y,w',k1,k2,k3⟩
 ·left;refine ⟨fun i hi=>?_,Ao hI (x:=.tuple #[.bool false]) (AB k2) rfl ⟨_,rfl,⟨rfl,_,rfl,rfl⟩,trivial⟩⟩;have hi':i < es.size:=Aa;have:=(Array.filter_eq_empty_iff.1 k1) es[i] (Array.getElem_mem hi');exact (q7 i es[i] (Array.getElem?_eq_getElem hi')).1 (by simpa using this)
 ·right;obtain ⟨j1,j2⟩:=Array.mem_filter.1 k1;obtain ⟨i,hi,rfl⟩:=Array.mem_iff_getElem.1 j1;have hix:=Array.getElem?_eq_getElem hi;refine ⟨i,by omega,fun hf=>?_,?_⟩
  ·have:=(q7 i es[i] hix).2 hf;rw [this] at j2;cases j2
  ·have him:r ≠ e.ρ id:=fun h=>b3 (h ▸ w2);obtain ⟨e1,he1,hle1,hI1⟩:∃ e1:Env,e1={ e with w:=w' }∧e.le e1∧Inv M c e1 H:=by
    rcases k2 with rfl | rfl
    ·exact ⟨e,rfl,Env.le_refl e,hI⟩
    ·exact ⟨_,rfl,hI.drew.1,hI.drew.2⟩
   have hw':∀ b:Nat,w'.heap[b]?=e.w.heap[b]?:=fun b=>by rcases k2 with rfl | rfl <;> rfl
   subst he1;have hg1:({ e with w:=w' }:Env).w.heap[({ e with w:=w' }:Env).ρ id]?=some (.mapIter (some r) since seen last):=(hw' _).trans q1;have hle2:=Env.le_it (e:={ e with w:=w' }) (o:=.mapIter (some r) since (seen.push es[i].born) clock) hg1 rfl rfl b3;have hblk:C2 { e with w:=E8 w' (e.ρ id) (.mapIter (some r) since (seen.push es[i].born) clock) } id (itV (i + 1) m ks vs sz L (KP f i)):=by
    refine ⟨r,since,seen.push es[i].born,clock,es,clock,Mp hg1 _,Bx (Env.le_trans hle1 hle2) q2,(Cj _ him).trans ((hw' r).trans q3),q4,q5,Nat.le_refl _,fun j y hy=>?_,fun j hj=>⟨rfl,es[i],by rw [show j=i by omega];exact hix,by simp⟩⟩;unfold KP;by_cases hji:j=i
    ·subst hji;rw [hix] at hy;simp only [Option.some.injEq] at hy;subst hy;simp
    ·rw [if_neg hji,← q7 j y hy];have hne:y.born ≠ es[i].born:=fun h=>hji (w5.2 j i y es[i] hy hix h);simp [hne]
   obtain ⟨r1,r2⟩:=hI1.rowIt hh (o:=.mapIter (some r) since (seen.push es[i].born) clock) hg1 rfl rfl hblk;obtain ⟨⟨s1,s2⟩,s3,s4⟩:=w6 i es[i] hix;have hle:=Env.le_trans hle1 r1;refine ⟨.tuple #[.bool true,es[i].key,es[i].val],_,.inl (AB k3),hle,r2,⟨_,rfl,?_⟩,fun _ h=>.inl h⟩;have t1:RS e (ks i) es[i].key:=by unfold RS;exact s2
   have t2:RS e (vs i) es[i].val:=by unfold RS;exact s4
   exact ⟨⟨rfl,.bool true,rfl,rfl⟩,⟨s1,_,rfl,C6 hle t1⟩,⟨s3,_,rfl,C6 hle t2⟩,trivial⟩
theorem Zo {x:Ctx} {Q:List V→Hp→Nat→Prop} {k:List It} {N:Nat} {A:List V} {H:Hp} {d:Option Nat} {y:X} {ops:List LOp} {id o m:Nat} {ks vs:Nat→V} {sz L:Nat} {f:Nat→V}
 (hy:y.ev A = .ptr id []) (hh:Af H id=true) (hg:hget H id=itV o m ks vs sz L f)
 (h1:∀ i,i < m→f i ≠ .bool true→Ro M (fun A' H'=>F8 M x Q k (N + 16 * (ops.length + 1)) A' H') ops (N + 16) (put A d (nxV (ks i) (vs i))) (BC H id (itV (i + 1) m ks vs sz L (KP f i))))
 (h2:(∀ i,i < m→f i = .bool true)→Ro M (fun A' H'=>F8 M x Q k (N + 16 * (ops.length + 1)) A' H') ops (N + 16) (put A d (.tup (.fcons 0 (.bool false) .fnil))) H) :
 F8 M x Q (.code (.reg (⟨d,.lo (.nxt y),none⟩ :: ops)) :: k) N A H:=by
 intro a w kr hs hm;cases kr with
 | nil=>exact hm.elim
 | cons j r =>
   cases j <;> try (exact hm.elim)
   rename_i C;obtain ⟨hc,hm⟩:=hm;show C.wp M.P (C9 M x Q r) a w;cases C <;> simp only [Bw,Bool.false_eq_true] at hc;rename_i id' os draw;simp only [Bool.and_eq_true,beq_iff_eq] at hc;obtain ⟨rfl,hc⟩:=hc;obtain ⟨e,rfl,hI,hA,hD,hk,hdef⟩:=hs;refine wp_region_list ?_;generalize hl:os.toList=l at *
   cases l with
   | nil=>simp [Gb] at hc
   | cons o1 l =>
     simp only [Gb,Bool.and_eq_true,decide_eq_true_eq] at hc;obtain ⟨⟨⟨hd,hck⟩,hcg⟩,hcl⟩:=hc;have hgn:o1.guard=none:=by
      cases ho:o1.guard with
      | none=>rfl
      | some q=>rw [ho] at hcg;simp [NL] at hcg
     unfold wpList;have hw:Region.wanted o1 (yielded os a.tmps)=true:=by simp [Region.wanted,hgn]
     rw [if_pos hw];left;have AH:∀ A' H' a' e',Inv M x e' H'→FR e' A' a'.tmps→(∀ id,N + 16≤id→¬ e'.D id)→a'.defers=[]→Ro M (fun A' H'=>F8 M x Q k (N + 16 * (ops.length + 1)) A' H') ops (N + 16) A' H'→wpList M.P os (C9 M x Q r) l a' e'.w:=by
      intro A' H' a' e' hI' hA' hD' hdef' hR;refine K8 l ops (N + 16) A' H' e' a' hcl hI' hA' hD' Aa hdef' ?_ hR;intro A'' H'' N'' a'' w'' hs hN hKK;have:N''=N + 16 * (ops.length + 1):=Aa;subst this;exact hKK a'' w'' r hs hm
     simp only [Pe,R8] at hck;split at hck;case h_2=>cases hck
     rename_i x1 s hop;simp only [X5] at hck;obtain ⟨rfl,hck⟩:=hck;have hrun:(execOp a.eval o1).run M.P e.w=Sem.run M.P (do pure (Next.value (← Instr.next (a.eval x1) false o1.type)):Sem Next) e.w:=by
      unfold execOp;rw [hop]
     subst hd;have fin:∀ out:Out,Bm M x e N out (Sem.run M.P (do pure (Next.value (← Instr.next (a.eval x1) false o1.type)):Sem Next) e.w)→Ro M (fun A' H'=>F8 M x Q k (N + 16 * (ops.length + 1)) A' H') ops (N + 16) (put A o1.dst out.v) out.H →
      o1.wp M.P a e.w (wpList M.P os (C9 M x Q r) l) (C9 M x Q r):=by
      rintro out ⟨z,e',hz,hle,hI',hv,hD'⟩ hR;have hgo:wpList M.P os (C9 M x Q r) l (a.put o1.dst z) e'.w:=by
       refine AH _ _ _ e' hI' (Qk hle hA hv o1.dst) (fun id hid hd'=>?_) (by cases o1.dst <;> exact hdef) hR;rcases hD' id hd' with h1 | h1
       ·exact hD id Aa h1
       ·omega
      unfold Oper.wp;rw [hrun];rcases hz with hz | ⟨hz,hx⟩
      ·rw [hz];exact hgo
      ·subst hx;rw [hz];exact hgo
     rcases Vi hI hA (n:=N) (t:=o1.type) hck (Ct hI hck) hy hh hg with ⟨hall,hG⟩ | ⟨i,hi,hf,hG⟩
     ·exact fin _ hG (h2 hall)
     ·exact fin _ hG (h1 i hi hf)
end Mv
namespace Mv
open Go
structure RgP (P:List Fu) (c:Nat→Nat):Prop where
 ne:P ≠ []
 len:P.length≤64
 par:∀ i,i < P.length→0≤Db P i∧Db P i≤Bi P i∧Bi P i≤24
 par0:Db P 0=0
 body:∀ i (h:i < P.length),RB P i 16 (P[i]).body (c i)
 sum:((List.range P.length).map c).sum≤6000
theorem Kv {M:Seat} (ok:OkCk M) (P:List Fu) (c:Nat→Nat) (h:RgP P c):As M 179 [FC P] [] 0 (Q3 .nili [] 0):=by
 refine Ac ok.k179 rfl fun x hx=>?_;have hne:=h.ne;have hl64:=h.len;have hl0:0 < P.length:=List.length_pos_iff.2 hne;have hs6:=h.sum;have hsl:∀ H m z,Aw H m z (.lst 3 P.length (BW P)) (.lst 3 P.length (BW P)):=fun H m z=>by rw [← BD P hne];exact En H m z P
 have hrl:∀ a,(V.lst 3 P.length (BW P)).ren a = .lst 3 P.length (BW P):=fun a=>by rw [← BD P hne];exact Ad a P
 have hck:∀ sz i,Lg P sz i = .st 5 (.fcons 0 (.int .i64 sz) (.fcons 1 (.bool false) (.fcons 2 (.bool false) (.fcons 3 (.lst 3 P.length (BW P)) (.fcons 4 (.int .i64 i) .fnil))))):=fun sz i=>by rw [Lg,BD P hne]
 rw [BD P hne];refine eX ?_;simp only [Ahb,Aoe,LZ,seval];refine Au (σ:=Nat) (fun j=>j≤P.length) (fun j=>fr 87 [(0,.lst 3 P.length (BW P)),(3,.ptr 0 []),(9,.lst 3 P.length (BW P)),(10,.int .i64 P.length),(11,.int .i64 j)]) (fun j=>[(0,Lg P ((List.range j).map c).sum (j - 1))]) (fun _=>1) (fun j=>P.length - j) 0 (Nat.zero_le _) ?_ ?_
 ·refine Av.fr [48] [] hx Bg Ab ?_ ?_
  ·simp only [LY,seval,hsl]
  ·simp only [hck,LY,seval,hsl,List.range_zero,List.map_nil,List.sum_nil,Nat.add_zero]
 intro j hj;refine eX ?_;simp only [hck];by_cases hin:j=P.length
 ·have d0:((j:Int) < (P.length:Int))=False:=eq_false Aa;subst hin;have e1:((6000:Int) < ((((List.range P.length).map c).sum:Nat):Int))=False:=eq_false Aa;have e2:((64:Int) < (P.length:Int))=False:=eq_false Aa;have e3:((P.length:Int)=0)=False:=eq_false Aa;simp only [d0,e1,e2,e3,LZ,seval];exact Ay.mkZ hx [] ⟨rfl,rfl,rfl⟩
 have d0:((j:Int) < (P.length:Int))=True:=eq_true Aa;have hlt:j < P.length:=Aa;have hf:=Ft hlt;have hb:=h.body j hlt;have hpr:=h.par j hlt;have hsm:((List.range j).map c).sum + c j≤6000:=by
  have h1:=FZ c (j + 1) (P.length - (j + 1));rw [show j + 1 + (P.length - (j + 1))=P.length by omega,CO] at h1;omega
 have hB:=WO ok P j hlt Aa 16 _ _ hb Aa ((List.range j).map c).sum Aa;have w2:IntKind.i64.wrap ((j:Int) + 1)=((j + 1:Nat):Int):=B7;have f1:(Db P j < 0)=False:=eq_false Aa;have f2:(Bi P j < Db P j)=False:=eq_false Aa;have f3:((24:Int) < Bi P j)=False:=eq_false Aa;have f4:((j:Int)=0)=True→(Db P j=0)=True:=fun h0=>by
  have:j=0:=by have:=of_eq_true h0;omega
  subst this;exact eq_true h.par0
 simp only [hck] at hB;by_cases hj0:j=0
 ·have g1:((j:Int)=0)=True:=eq_true Aa;simp only [d0,hf,f1,f2,f3,g1,f4 g1,A8,A7,A6,LZ,seval];repeat refine sd ?_
  have zz:=BK hsl @B9;refine Hx [0] [0] (hB) ?_;simp only [hrl,w2,LZ,seval];refine ⟨j + 1,by omega,by omega,?_⟩;rw [CO,Nat.add_sub_cancel];refine Av.fr [0] [] hx Bg Ab ?_ ?_
  ·simp only [LY,seval,hsl]
  ·simp only [hck,LY,seval,hsl]
 ·have g1:((j:Int)=0)=False:=eq_false Aa;simp only [d0,hf,f1,f2,f3,g1,A8,A7,A6,LZ,seval];repeat refine sd ?_
  have zz:=BK hsl @B9;refine Hx [0] [0] (hB) ?_;simp only [hrl,w2,LZ,seval];refine ⟨j + 1,by omega,by omega,?_⟩;rw [CO,Nat.add_sub_cancel];refine Av.fr [0] [] hx Bg Ab ?_ ?_
  ·simp only [LY,seval,hsl]
  ·simp only [hck,LY,seval,hsl]
theorem Py (H:Hp) (m z:List Nat) (l:List Fu):B5 H m z (FC l) (FC l)=True:=by
 cases l with
 | nil=>exact eq_true rfl
 | cons x r=>exact Ak H m z (x :: r)
end Mv
