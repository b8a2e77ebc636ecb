/- A part. -/
import Derived.Test.YtgeionenpaopaaaGreatDoorAL
set_option linter.all false
namespace Mv
open Go
variable {M:Seat}
inductive It where
 | code (c:LC)
 | blk (id:Nat)
 | inv (J:List V→Hp→Nat→Prop)
inductive Jt where
 | code (c:Code)
 | blk (id:Nat)
 | inv (J:List V→Hp→Nat→Prop)
def DT (M:Seat):List Jt→List It→Prop
 | [],[]=>True
 | .code C :: r,.code c :: r'=>Bw M C c=true∧DT M r r'
 | .blk i :: r,.blk i' :: r'=>i=i'∧DT M r r'
 | .inv J :: r,.inv J' :: r'=>J=J'∧DT M r r'
 | _,_=>False
def C9 (M:Seat) (c:Ctx) (Q:List V→Hp→Nat→Prop):List Jt→Exit→Act→World→Prop
 | [],.normal,a,w | [],.ret,a,w=>∃ A H N,U5 M c A H N a w∧Q A H N
 | [],_,_,_=>False
 | .code C :: r,.normal,a,w=>C.wp M.P (C9 M c Q r) a w
 | .code _ :: r,ex,a,w=>C9 M c Q r ex a w
 | .blk id :: r,.exit j,a,w=>if j=id then C9 M c Q r .normal a w else C9 M c Q r (.exit j) a w
 | .blk _ :: r,ex,a,w=>C9 M c Q r ex a w
 | .inv J :: _,.normal,a,w=>∃ A H N,U5 M c A H N a w∧J A H N
 | .inv _ :: r,ex,a,w=>C9 M c Q r ex a w
theorem Uw {c:Ctx} {Q:List V→Hp→Nat→Prop} {C:Code} {r:List Jt}:C9 M c Q (.code C :: r)=Exit.then (C.wp M.P (C9 M c Q r)) (C9 M c Q r):=by
 funext ex a w;cases ex <;> rfl
theorem YP {c:Ctx} {Q:List V→Hp→Nat→Prop} {i:Nat} {r:List Jt}:C9 M c Q (.blk i :: r)=Exit.inBlock i (C9 M c Q r):=by
 funext ex a w;cases ex <;> rfl
def Ca (id:Nat):List It→Option (List It)
 | []=>none
 | .blk i :: r=>if id=i then some r else Ca id r
 | _ :: r=>Ca id r
def HS (P:Program) (C:Code) (Q:Exit→Act→World→Prop) (a:Act) (w:World):Prop :=
 ∀ (b:Frame) (k:List Item) (cs:List Frame),∃ e a' w',Q e a' w'∧Arrives P (lone (b.at a (.code C :: .inLoop C :: k)) cs w) b k cs e a' w'
theorem HS.wp {P:Program} {C:Code} {Q:Exit→Act→World→Prop} {a:Act} {w:World} (h:HS P C Q a w):(Code.loop C).wp P Q a w:=by
 intro b k cs;obtain ⟨e,a',w',hq,harr⟩:=h b k cs;exact ⟨e,a',w',hq,.of_steps (.one step_loop) harr⟩
def IK (M:Seat) (x:Ctx) (Q:List V→Hp→Nat→Prop) (c:LC) (k:List It) (A:List V) (H:Hp) (N:Nat):Prop :=
 ∀ a w kr C,U5 M x A H N a w→DT M kr k→Bw M C c=true→HS M.P C (C9 M x Q kr) a w
def F8 (M:Seat) (x:Ctx) (Q:List V→Hp→Nat→Prop) (k:List It) (N:Nat) (A:List V) (H:Hp):Prop :=
 ∀ (a:Act) (w:World) (kr:List Jt),U5 M x A H N a w→DT M kr k→C9 M x Q kr .normal a w
def ex (M:Seat) (x:Ctx) (Q:List V→Hp→Nat→Prop):Nat→List It→Nat→List V→Hp→Prop
 | 0,k,N,A,H=>F8 M x Q k N A H
 | _ + 1,[],N,A,H=>Q A H N
 | n + 1, .code c :: k, N, A, H =>
   match c with
   | .skip=>ex M x Q n k N A H
   | .reg ops=>Ro M (ex M x Q n k (N + 16 * ops.length)) ops N A H
   | .regd L=>Cr M (ex M x Q n k (N + 32 * L.length)) L.length N (GD L 0) L 0 A H [(0,H)] []
   | .seq c d=>ex M x Q n (.code c :: .code d :: k) N A H
   | .cond y c d => match y.ev A with
     | .bool t=>(t=true→ex M x Q n (.code c :: k) N A H)∧(t=false→ex M x Q n (.code d :: k) N A H)
     | _=>False
   | .block id c=>ex M x Q n (.code c :: .blk id :: k) N A H
   | .loop c=>IK M x Q c k A H N
   | .exit id => match Ca id k with
     | some k'=>ex M x Q n k' N A H
     | none=>False
   | .ret=>Q A H N
 | n + 1,.blk _ :: k,N,A,H=>ex M x Q n k N A H
 | _ + 1,.inv J :: _,N,A,H=>J A H N
theorem Fm {x:Ctx} {Q:List V→Hp→Nat→Prop} {id:Nat} {a:Act} {w:World}:∀ (kr:List Jt) (k k':List It),DT M kr k→Ca id k=some k'→(∀ kr',DT M kr' k'→C9 M x Q kr' .normal a w)→C9 M x Q kr (.exit id) a w
 | [],[],_,_,h,_=>by simp [Ca] at h
 | .code C :: r, .code c :: r', k', hm, h, hp => by
   simp only [Ca] at h;exact Fm r r' k' hm.2 h hp
 | .inv J :: r, .inv J' :: r', k', hm, h, hp => by
   simp only [Ca] at h;exact Fm r r' k' hm.2 h hp
 | .blk i :: r, .blk i' :: r', k', hm, h, hp => by
   obtain ⟨rfl,hm⟩:=hm;simp only [Ca] at h;simp only [C9];split at h
   ·rename_i hid;rw [if_pos hid];simp only [Option.some.injEq] at h;subst h;exact hp r hm
   ·rename_i hid;rw [if_neg hid];exact Fm r r' k' hm h hp
 | [],_ :: _,_,hm,_,_=>by simp [DT] at hm
 | _ :: _,[],_,hm,_,_=>by simp [DT] at hm
 | .code _ :: _,.blk _ :: _,_,hm,_,_=>by simp [DT] at hm
 | .code _ :: _,.inv _ :: _,_,hm,_,_=>by simp [DT] at hm
 | .blk _ :: _,.code _ :: _,_,hm,_,_=>by simp [DT] at hm
 | .blk _ :: _,.inv _ :: _,_,hm,_,_=>by simp [DT] at hm
 | .inv _ :: _,.code _ :: _,_,hm,_,_=>by simp [DT] at hm
 | .inv _ :: _,.blk _ :: _,_,hm,_,_=>by simp [DT] at hm
theorem HI {x:Ctx} {Q:List V→Hp→Nat→Prop} {a:Act} {w:World} (h:∃ A H N,U5 M x A H N a w∧Q A H N):∀ kr:List Jt,C9 M x Q kr .ret a w
 | []=>h
 | .code _ :: r=>HI h r
 | .blk _ :: r=>HI h r
 | .inv _ :: r=>HI h r
theorem C3 {x:Ctx} {Q:List V→Hp→Nat→Prop}:∀ (n:Nat) (k:List It) (N:Nat) (A:List V) (H:Hp),ex M x Q n k N A H→F8 M x Q k N A H
 | 0,_,_,_,_,h,a,w,kr,hs,hm=>h a w kr hs hm
 | n + 1, [], N, A, H, h, a, w, kr, hs, hm => by
   cases kr with
   | nil=>exact ⟨A,H,N,hs,h⟩
   | cons j r=>cases j <;> exact hm.elim
 | n + 1, .blk i :: k, N, A, H, h, a, w, kr, hs, hm => by
   cases kr with
   | nil=>exact hm.elim
   | cons j r =>
     cases j <;> try (exact hm.elim)
     simp only [C9];exact C3 n k N A H h a w r hs hm.2
 | n + 1, .inv J :: k, N, A, H, h, a, w, kr, hs, hm => by
   cases kr with
   | nil=>exact hm.elim
   | cons j r =>
     cases j <;> try (exact hm.elim)
     obtain ⟨rfl,hm⟩:=hm;exact ⟨A,H,N,hs,h⟩
 | n + 1, .code c :: k, N, A, H, h, a, w, kr, hs, hm => by
   cases kr with
   | nil=>exact hm.elim
   | cons j r =>
     cases j <;> try (exact hm.elim)
     rename_i C;obtain ⟨hc,hm⟩:=hm;show C.wp M.P (C9 M x Q r) a w;cases c with
     | skip =>
       cases C <;> simp only [Bw,Bool.false_eq_true] at hc;exact wp_skip (C3 n k N A H h a w r hs hm)
     | reg ops =>
       cases C <;> simp only [Bw,Bool.false_eq_true] at hc;rename_i id os draw;simp only [Bool.and_eq_true,beq_iff_eq] at hc;obtain ⟨rfl,hc⟩:=hc;obtain ⟨e,rfl,hI,hA,hD,hk,hdef⟩:=hs;refine wp_region_list (K8 os.toList ops N A H e a hc hI hA hD hk hdef ?_ h);intro A' H' N' a' w' hs' hN hK;subst hN;exact C3 n k _ A' H' hK a' w' r hs' hm
     | regd L =>
       cases C <;> simp only [Bw,Bool.false_eq_true] at hc;rename_i id os draw;simp only [Bool.and_eq_true,beq_iff_eq] at hc;obtain ⟨rfl,hc⟩:=hc;obtain ⟨e,rfl,hI,hA,hD,hk,hdef⟩:=hs;obtain ⟨hle,hI'⟩:=hI.drew;refine wp_region_any (KG hc).mixed ?_;refine Ur hc hI' ⟨hA.len,fun t=>HH hle (hA.val t)⟩ hD hk hdef (fun j hj=>(Mg L 0 j hj).2) (fun A' H' a' e' q1 q2 q3 q4 q5=>?_) h;exact C3 n k _ A' H' q5 a' e'.w r ⟨e',rfl,q1,q2,q3,by omega,q4⟩ hm
     | seq c d =>
       cases C <;> simp only [Bw,Bool.false_eq_true] at hc;simp only [Bool.and_eq_true] at hc;refine wp_seq ?_;rw [← Uw];exact C3 n (.code c :: .code d :: k) N A H h a w (.code _ :: .code _ :: r) hs ⟨hc.1,hc.2,hm⟩
     | cond y c d =>
       cases C <;> simp only [Bw,Bool.false_eq_true] at hc;simp only [Bool.and_eq_true] at hc;obtain ⟨⟨hx,hc1⟩,hc2⟩:=hc;have hs':=hs;obtain ⟨e,rfl,hI,hA,hD,hk,hdef⟩:=hs';have hv:=Az hI.φ hA hx (Ct hI hx);simp only [ex] at h;split at h
       ·rename_i t ht;rw [ht] at hv;refine wp_cond_split (Fk hv) (fun htt=>?_) (fun htt=>?_)
        ·exact C3 n (.code c :: k) N A H (h.1 htt) a e.w (.code _ :: r) hs ⟨hc1,hm⟩
        ·exact C3 n (.code d :: k) N A H (h.2 htt) a e.w (.code _ :: r) hs ⟨hc2,hm⟩
       ·exact h.elim
     | block id c =>
       cases C <;> simp only [Bw,Bool.false_eq_true] at hc;simp only [Bool.and_eq_true,beq_iff_eq] at hc;obtain ⟨rfl,hc⟩:=hc;refine wp_block ?_;rw [← YP];exact C3 n (.code c :: .blk _ :: k) N A H h a w (.code _ :: .blk _ :: r) hs ⟨hc,rfl,hm⟩
     | loop c =>
       cases C <;> simp only [Bw,Bool.false_eq_true] at hc;exact (h a w r _ hs hm hc).wp
     | exit id =>
       cases C <;> simp only [Bw,Bool.false_eq_true] at hc;simp only [beq_iff_eq] at hc;subst hc;simp only [ex] at h;split at h
       ·rename_i k' hd;exact wp_exit (Fm r k k' hm hd (fun kr' hm'=>C3 n k' N A H h a w kr' hs hm'))
       ·exact h.elim
     | ret =>
       cases C <;> simp only [Bw,Bool.false_eq_true] at hc;exact wp_ret (HI ⟨A,H,N,hs,h⟩ r)
theorem es {x:Ctx} {Q:List V→Hp→Nat→Prop} (n:Nat) {k:List It} {N:Nat} {A:List V} {H:Hp} (h:ex M x Q n k N A H):F8 M x Q k N A H:=C3 n k N A H h
theorem eX {x:Ctx} {Q:List V→Hp→Nat→Prop} {k:List It} {N:Nat} {A:List V} {H:Hp} (h:ex M x Q 2000 k N A H):F8 M x Q k N A H:=es 2000 h
theorem X0 {P:Program} {c:Code} {Q:Exit→Act→World→Prop} {σ:Type} (I:σ→Act→World→Prop) (μ:σ→Nat)
 (round:∀ s a w,I s a w→c.wp P (Exit.then (fun a' w'=>∃ s',I s' a' w'∧μ s' < μ s) Q) a w):∀ (s:σ) (a:Act) (w:World),I s a w→HS P c Q a w:=by
 have key:∀ n (s:σ) a w,μ s=n→I s a w→∀ (b:Frame) (k:List Item) (cs:List Frame),
  ∃ e a' w',Q e a' w'∧Arrives P (lone (b.at a (.code c :: .inLoop c :: k)) cs w) b k cs e a' w':=by
  intro n;induction n using Nat.strongRecOn with
  | _ n ih =>
    intro s a w hn hI b k cs;obtain ⟨e,a₁,w₁,hq,harr⟩:=round s a w hI b (.inLoop c :: k) cs;cases e with
    | normal =>
      obtain ⟨s',hI₁,hlt⟩:=hq;obtain ⟨e₂,a₂,w₂,hq₂,harr₂⟩:=ih (μ s') (hn ▸ hlt) s' a₁ w₁ rfl hI₁ b k cs;exact ⟨e₂,a₂,w₂,hq₂,.of_steps (Steps.trans harr (.one step_inLoop)) harr₂⟩
    | exit id=>exact ⟨_,a₁,w₁,hq,.pass (x:=.inLoop c) rfl (fun _ _=>.inl BF) harr⟩
    | goto l=>exact ⟨_,a₁,w₁,hq,.pass (x:=.inLoop c) rfl (fun _ _=>.inl BF) harr⟩
    | ret=>exact ⟨_,a₁,w₁,hq,.pass (x:=.inLoop c) rfl (fun _ _=>.inl BF) harr⟩
    | panic ch=>exact ⟨_,a₁,w₁,hq,.pass (x:=.inLoop c) rfl (fun _ _=>.inl BF) harr⟩
    | outgrown=>exact ⟨_,a₁,w₁,hq,.pass (x:=.inLoop c) rfl (fun _ _=>.inl BF) harr⟩
 intro s a w h b k cs;exact key _ s a w rfl h b k cs
def Av (M:Seat) (x:Ctx) (A:List V) (H:Hp) (N:Nat) (A':List V) (H':Hp) (N':Nat):Prop:=∀ a w,U5 M x A H N a w→U5 M x A' H' N' a w
theorem Av.refl {x:Ctx} {A:List V} {H:Hp} {N:Nat}:Av M x A H N A H N:=fun _ _ h=>h
theorem Au {x:Ctx} {Q:List V→Hp→Nat→Prop} {c:LC} {k:List It} {A:List V} {H:Hp} {N:Nat} {σ:Type} (I:σ→Prop) (sA:σ→List V) (sH:σ→Hp) (sN:σ→Nat) (μ:σ→Nat) (s0:σ)
 (hI:I s0) (hw:Av M x A H N (sA s0) (sH s0) (sN s0))
 (round:∀ s,I s→F8 M x Q (.code c :: .inv (fun A' H' N'=>∃ s',I s'∧μ s' < μ s∧Av M x A' H' N' (sA s') (sH s') (sN s')) :: k) (sN s) (sA s) (sH s)) :
 IK M x Q c k A H N:=by
 intro a w kr C hs hm hc;refine X0 (σ:=σ) (fun s a w=>I s∧U5 M x (sA s) (sH s) (sN s) a w) μ ?_ s0 a w ⟨hI,hw a w hs⟩;rintro s a w ⟨hIs,hss⟩;have hn:=round s hIs;have:=hn a w (.code C :: .inv _ :: kr) hss ⟨hc,rfl,hm⟩;have hp:C9 M x Q (.inv (fun A' H' N'=>∃ s',I s'∧μ s' < μ s∧Av M x A' H' N' (sA s') (sH s') (sN s')) :: kr)=Exit.then (fun a' w'=>∃ A' H' N',U5 M x A' H' N' a' w'∧∃ s',I s'∧μ s' < μ s∧Av M x A' H' N' (sA s') (sH s') (sN s')) (C9 M x Q kr):=by
  funext ex a w;cases ex <;> rfl
 have h2:C.wp M.P (C9 M x Q (.inv (fun A' H' N'=>∃ s',I s'∧μ s' < μ s∧Av M x A' H' N' (sA s') (sH s') (sN s')) :: kr)) a w:=this;rw [hp] at h2;refine Code.wp_mono (fun ex a' w' h=>?_) h2;cases ex <;> try (exact h)
 obtain ⟨A',H',N',hs',s',h1,h3,h4⟩:=h;exact ⟨s',⟨h1,h4 _ _ hs'⟩,h3⟩
theorem F8.weak {x:Ctx} {Q:List V→Hp→Nat→Prop} {k:List It} {A:List V} {H:Hp} {N:Nat} (A':List V) (H':Hp) (N':Nat) (hw:Av M x A H N A' H' N') (h:F8 M x Q k N' A' H'):F8 M x Q k N A H :=
 fun a w kr hs hm=>h a w kr (hw a w hs) hm
theorem AJ {x:Ctx} {Q:List V→Hp→Nat→Prop} {c:LC} {k:List It} {A:List V} {H:Hp} {N:Nat}
 (h:F8 M x Q (.code c :: .inv (fun A' H' N'=>IK M x Q c k A' H' N') :: k) N A H):IK M x Q c k A H N:=by
 intro a w kr C hs hm hc;have h1:=h a w (.code C :: .inv _ :: kr) hs ⟨hc,rfl,hm⟩;have hp:C9 M x Q (.inv (fun A' H' N'=>IK M x Q c k A' H' N') :: kr)=Exit.then (fun a' w'=>∃ A' H' N',U5 M x A' H' N' a' w'∧IK M x Q c k A' H' N') (C9 M x Q kr):=by
  funext ex a w;cases ex <;> rfl
 have h2:C.wp M.P (C9 M x Q (.inv (fun A' H' N'=>IK M x Q c k A' H' N') :: kr)) a w:=h1;rw [hp] at h2;intro b kk cs;obtain ⟨e,a₁,w₁,hq,harr⟩:=h2 b (.inLoop C :: kk) cs;cases e with
 | normal =>
   obtain ⟨A',H',N',hs',hl⟩:=hq;obtain ⟨e₂,a₂,w₂,hq₂,harr₂⟩:=hl a₁ w₁ kr C hs' hm hc b kk cs;exact ⟨e₂,a₂,w₂,hq₂,.of_steps (Steps.trans harr (.one step_inLoop)) harr₂⟩
 | exit id=>exact ⟨_,a₁,w₁,hq,.pass (x:=.inLoop C) rfl (fun _ _=>.inl BF) harr⟩
 | goto l=>exact ⟨_,a₁,w₁,hq,.pass (x:=.inLoop C) rfl (fun _ _=>.inl BF) harr⟩
 | ret=>exact ⟨_,a₁,w₁,hq,.pass (x:=.inLoop C) rfl (fun _ _=>.inl BF) harr⟩
 | panic ch=>exact ⟨_,a₁,w₁,hq,.pass (x:=.inLoop C) rfl (fun _ _=>.inl BF) harr⟩
 | outgrown=>exact ⟨_,a₁,w₁,hq,.pass (x:=.inLoop C) rfl (fun _ _=>.inl BF) harr⟩
end Mv
namespace Mv
open Go
def TG (H:Hp) (z:List Nat) (i:Nat):Bool:=z.contains i && Af H i && (hget H i).solid
def V.isMp:V→Bool
 | .mp ..=>true
 | _=>false
def Tu (H:Hp) (z:List Nat) (i:Nat):Bool:=z.contains i && Af H i && (hget H i).isMp
def TW (H:Hp) (z:List Nat) (i:Nat):Bool:=TG H z i || Tu H z i
def Aw (H:Hp) (m z:List Nat):V→V→Prop
 | .junk,a=>a = .junk
 | .int k n,a=>a = .int k n
 | .bool b,a=>a = .bool b
 | .str s,a=>a = .str s
 | .nilp,a=>a = .nilp
 | .nils,a=>a = .nils
 | .nilm,a=>a = .nilm
 | .nilf,a=>a = .nilf
 | .nili,a=>a = .nili
 | .fnil,a=>a = .fnil
 | .ptr j p,a=>(match a with | .ptr i q=>m[j]?=some i∧At q=At p | _=>False)
 | .map j,a=>(match a with | .map i=>m[j]?=some i | _=>False)
 | .sl j p o n sz,a=>(match a with | .sl i q o' n' sz'=>m[j]?=some i∧(At q=At p∧o'=o∧n'=n∧sz'=sz) | _=>False)
 | .imm v, a => (match a with
   | .imm u=>Aw H m z v u
   | .ptr i q=>TG H z i=true∧(hget H i).ok q∧Aw H m z v ((hget H i).get q)
   | _=>False)
 | .lst sz n f, a => (match a with
   | .lst sz' n' g=>(sz'=sz∧n'=n)∧∀ i,i < n→Aw H m z (f i) (g i)
   | .sl i q o n' sz' => (sz' = sz ∧ n' = n) ∧ TG H z i = true ∧ (hget H i).ok q ∧ (match (hget H i).get q with
     | .ar s L g=>s=sz∧o + n≤L∧∀ i,i < n→Aw H m z (f i) (g (o + i))
     | _=>False)
   | .nils=>n=0
   | _=>False)
 | .fn f c,a=>(match a with | .fn f' c'=>f'=f∧Aw H m z c c' | _=>False)
 | .ifc t v,a=>(match a with | .ifc t' v'=>t'=t∧Aw H m z v v' | _=>False)
 | .st n fs,a=>(match a with | .st n' fs'=>n'=n∧Aw H m z fs fs' | _=>False)
 | .ar sz n f,a=>(match a with | .ar sz' n' g=>(sz'=sz∧n'=n)∧∀ i,i < n→Aw H m z (f i) (g i) | _=>False)
 | .fcons o v r,a=>(match a with | .fcons o' v' r'=>o'=o∧Aw H m z v v'∧Aw H m z r r' | _=>False)
 | .tup fs,a=>(match a with | .tup fs'=>Aw H m z fs fs' | _=>False)
 | .mp n ks vs,a=>(match a with | .mp n' ks' vs'=>n'=n∧∀ i,i < n→Aw H m z (ks i) (ks' i)∧Aw H m z (vs i) (vs' i) | _=>False)
 | .fm n ks vs, a => (match a with
   | .fm n' ks' vs'=>n'=n∧∀ i,i < n→Aw H m z (ks i) (ks' i)∧Aw H m z (vs i) (vs' i)
   | .map i=>Tu H z i=true∧(match hget H i with | .mp n' ks' vs'=>n'=n∧∀ i,i < n→Aw H m z (ks i) (ks' i)∧Aw H m z (vs i) (vs' i) | _=>False)
   | _=>False)
theorem DM {H:Hp} {m z:List Nat} {v u:V} (h:Aw H m z v u):v.size=u.size:=by
 cases v <;> cases u <;> simp_all [Aw,V.size]
theorem Gv {H:Hp} {m z:List Nat} {v u:V} (h:Aw H m z v u):v.isAgg=u.isAgg:=by
 cases v <;> cases u <;> simp_all [Aw,V.isAgg]
theorem B0 {H:Hp} {m z:List Nat} {v u:V} (h:Aw H m z v u):v.solid=u.solid:=by
 cases v <;> cases u <;> simp_all [Aw,V.solid]
theorem L6 {H:Hp} {m z:List Nat} {v u:V} (h:Aw H m z v u):v.chain=u.chain:=by
 cases v <;> cases u <;> simp_all [Aw,V.chain]
theorem Ab3 {H:Hp} {m z:List Nat} {v u:V} (d:Nat) (h:Aw H m z v u):v.flo d=u.flo d:=by
 cases v <;> cases u <;> simp_all [Aw,V.flo]
structure Pull (H:Hp) (m z:List Nat) (e e2:Env):Prop where
 D:∀ j i,m[j]?=some i→e.D i→e2.D j∧e2.ρ j=e.ρ i
 im:∀ b,e.im b→e2.im b
 fz:∀ i,TG H z i=true→e2.im (e.ρ i)∧∃ cells el,e.w.heap[e.ρ i]?=some (.cells cells el (0,0))∧(hget H i).size≤cells.size∧R e (hget H i) (cells.toList.take (hget H i).size)
 fm:∀ i,Tu H z i=true→e2.im (e.ρ i)∧C2 e i (hget H i)
 w:e2.w=e.w
 φ:e2.φ=e.φ
 τ:e2.τ=e.τ
theorem BN {H:Hp} {m z:List Nat} {e e2:Env} (hp:Pull H m z e e2):∀ {v u:V} {cs:List Value},Aw H m z v u→R e u cs→R e2 v cs
 | .junk,u,cs,hs,h=>by simp only [Aw] at hs;subst hs;exact h
 | .int _ _,u,cs,hs,h=>by simp only [Aw] at hs;subst hs;exact h
 | .bool _,u,cs,hs,h=>by simp only [Aw] at hs;subst hs;exact h
 | .str _,u,cs,hs,h=>by simp only [Aw] at hs;subst hs;exact h
 | .nilp,u,cs,hs,h=>by simp only [Aw] at hs;subst hs;exact h
 | .nils,u,cs,hs,h=>by simp only [Aw] at hs;subst hs;exact h
 | .nilm,u,cs,hs,h=>by simp only [Aw] at hs;subst hs;exact h
 | .nilf,u,cs,hs,h=>by simp only [Aw] at hs;subst hs;exact h
 | .nili,u,cs,hs,h=>by simp only [Aw] at hs;subst hs;exact h
 | .fnil,u,cs,hs,h=>trivial
 | .ptr j p, u, cs, hs, h => by
   cases u <;> simp only [Aw] at hs;obtain ⟨h1,h2⟩:=hs;simp only [R] at h ⊢;obtain ⟨d1,d2⟩:=hp.D _ _ h1 h.1;rw [d2,← h2];exact ⟨d1,h.2⟩
 | .map j, u, cs, hs, h => by
   cases u <;> simp only [Aw] at hs;simp only [R] at h ⊢;obtain ⟨d1,d2⟩:=hp.D _ _ hs h.1;rw [d2];exact ⟨d1,h.2⟩
 | .sl j p o n sz, u, cs, hs, h => by
   cases u <;> simp only [Aw] at hs;obtain ⟨h1,h2,rfl,rfl,rfl⟩:=hs;simp only [R] at h ⊢;obtain ⟨d1,d2⟩:=hp.D _ _ h1 h.1;rw [d2,← h2,hp.w];exact ⟨d1,h.2⟩
 | .imm v, u, cs, hs, h => by
   cases u <;> simp only [Aw] at hs;case imm u =>
    simp only [R] at h ⊢;obtain ⟨b,o,c,el,fz,h1,h2,h3,h4,h5⟩:=h;rw [DM hs,hp.w];exact ⟨b,o,c,el,fz,h1,hp.im b h2,h3,h4,BN hp hs h5⟩
   case ptr i q =>
    simp only [R] at h ⊢;obtain ⟨h0,h1,h2⟩:=hs;obtain ⟨k1,cells,el,hc,hsz,hR⟩:=hp.fz i h0;have hlen:(cells.toList.take (hget H i).size).length=(hget H i).size:=F6;obtain ⟨g1,g2⟩:=DP hR hlen h1;rw [hlen] at g1;rw [DM h2,hp.w];refine ⟨_,_,cells,el,_,h.2,k1,hc,by omega,BN hp h2 ?_⟩;rw [List.drop_take,List.take_take,Nat.min_eq_left Aa] at g2;exact g2
 | .lst sz n f, u, cs, hs, h => by
   cases u <;> simp only [Aw] at hs;case lst sz' n' g =>
    obtain ⟨⟨rfl,rfl⟩,hs⟩:=hs;simp only [R] at h ⊢;obtain ⟨a,cap,h1,h2,h3⟩:=h;refine ⟨a,cap,h1,h2,fun h0=>?_⟩;obtain ⟨b,o,c,el,fz,k1,k2,k3,k4,k5⟩:=h3 h0;refine ⟨b,o,c,el,fz,k1,hp.im b k2,by rw [hp.w];exact k3,k4,fun i hi=>⟨?_,BN hp (hs i hi) (k5 i hi).2⟩⟩;rw [B0 (hs i hi),DM (hs i hi)];exact (k5 i hi).1
   case nils =>
    subst hs;simp only [R] at h ⊢;exact ⟨none,0,h,Nat.le_refl _,fun h=>absurd h (Nat.lt_irrefl _)⟩
   case sl i q o n' sz' =>
    obtain ⟨⟨rfl,rfl⟩,h0,h1,hs⟩:=hs;split at hs;case h_2=>exact hs.elim
    rename_i s L g hget;obtain ⟨rfl,hL,hs⟩:=hs;simp only [R] at h ⊢;obtain ⟨_,b,cap,hcs,hcap,hle,_⟩:=h;refine ⟨b,cap,hcs,hle,fun hn=>?_⟩;have hb:=hcap.resolve_left Aa;obtain ⟨k1,cells,el,hc,hsz,hR⟩:=hp.fz i h0;have hlen:(cells.toList.take (Mv.hget H i).size).length=(Mv.hget H i).size:=F6;obtain ⟨g1,g2⟩:=DP hR hlen h1;rw [hlen] at g1;rw [hget] at g1 g2;rw [List.drop_take,List.take_take,Nat.min_eq_left Aa] at g2;have g1:At q + L * s≤(Mv.hget H i).size:=g1;have g2:R e (.ar s L g) ((cells.toList.drop (At q)).take (L * s)):=g2;simp only [R] at g2;have hmul:∀ j,j≤L→j * s≤L * s:=fun j hj=>Nat.mul_le_mul_right _ hj;refine ⟨_,_,cells,el,_,hb,k1,by rw [hp.w];exact hc,?_,fun j hj=>⟨?_,?_⟩⟩
    ·have:=hmul (o + n') hL;rw [Nat.add_mul] at this;omega
    ·have:=(g2.2 (o + j) Aa).1;rw [B0 (hs j hj),DM (hs j hj)];exact this
    ·have g3:=(g2.2 (o + j) Aa).2;refine BN hp (hs j hj) ?_;have h3:=hmul (o + j + 1) Aa;rw [Nat.add_mul,Nat.one_mul] at h3;rw [List.drop_take,List.take_take,Nat.min_eq_left Aa,List.drop_drop] at g3;have e1:At q + o * s + j * s=At q + (o + j) * s:=by rw [Nat.add_mul];omega
     rw [e1];exact g3
 | .fn f c, u, cs, hs, h => by
   cases u <;> simp only [Aw] at hs;obtain ⟨rfl,hs⟩:=hs;simp only [R] at h ⊢;obtain ⟨xs,h1,h2⟩:=h;rw [hp.φ];exact ⟨xs,h1,BN hp hs h2⟩
 | .ifc t v, u, cs, hs, h => by
   cases u <;> simp only [Aw] at hs;obtain ⟨rfl,hs⟩:=hs;simp only [R] at h ⊢;obtain ⟨x,h1,h2,h3⟩:=h;rw [hp.τ,B0 hs,Gv hs];refine ⟨x,h1,h2,?_⟩;split at h3
   ·obtain ⟨c,k1,k2⟩:=h3;exact ⟨c,k1,BN hp hs k2⟩
   ·exact BN hp hs h3
 | .st n fs, u, cs, hs, h => by
   cases u <;> simp only [Aw] at hs;obtain ⟨rfl,hs⟩:=hs;simp only [R] at h ⊢;rw [L6 hs];exact ⟨h.1,h.2.1,BN hp hs h.2.2⟩
 | .ar sz n f, u, cs, hs, h => by
   cases u <;> simp only [Aw] at hs;obtain ⟨⟨rfl,rfl⟩,hs⟩:=hs;simp only [R] at h ⊢;refine ⟨h.1,fun i hi=>⟨?_,BN hp (hs i hi) (h.2 i hi).2⟩⟩;rw [B0 (hs i hi),DM (hs i hi)];exact (h.2 i hi).1
 | .fcons o v r, u, cs, hs, h => by
   cases u <;> simp only [Aw] at hs;obtain ⟨rfl,hv,hr⟩:=hs;simp only [R] at h ⊢;rw [L6 hr,Ab3 _ hr,DM hv];exact ⟨h.1,h.2.1,h.2.2.1,BN hp hv h.2.2.2.1,BN hp hr h.2.2.2.2⟩
 | .tup fs, u, cs, hs, h => by
   cases u <;> simp only [Aw] at hs;simp only [R] at h
 | .mp n ks vs, u, cs, hs, h => by
   cases u <;> simp only [Aw] at hs;simp only [R] at h
 | .fm n ks vs, u, cs, hs, h => by
   cases u <;> simp only [Aw] at hs;case fm n' ks' vs' =>
    obtain ⟨rfl,hs⟩:=hs;simp only [R] at h ⊢;obtain ⟨b,es,ck,hc,hi,hb,hn,hwf,hx⟩:=h;refine ⟨b,es,ck,hc,hp.im b hi,by rw [hp.w];exact hb,hn,hwf,fun i x hix=>?_⟩;have hi':i < es.size:=(Array.getElem?_eq_some_iff.1 hix).1;obtain ⟨s1,s2⟩:=hs i Aa;obtain ⟨⟨q1,q2⟩,q3,q4⟩:=hx i x hix;refine ⟨⟨by rw [B0 s1];exact q1,?_⟩,by rw [B0 s2];exact q3,?_⟩
    ·rw [Gv s1];split
     ·rename_i ha;simp only [ha] at q2;obtain ⟨c,k1,k2⟩:=q2;exact ⟨c,k1,BN hp s1 k2⟩
     ·rename_i ha;simp only [ha] at q2;exact BN hp s1 q2
    ·rw [Gv s2];split
     ·rename_i ha;simp only [ha] at q4;obtain ⟨c,k1,k2⟩:=q4;exact ⟨c,k1,BN hp s2 k2⟩
     ·rename_i ha;simp only [ha] at q4;exact BN hp s2 q4
   case map j =>
    obtain ⟨h0,hs⟩:=hs;obtain ⟨k1,k2⟩:=hp.fm j h0;split at hs;case h_2=>exact hs.elim
    rename_i n' ks' vs' hg;obtain ⟨rfl,hs⟩:=hs;rw [hg] at k2;obtain ⟨es,ck,hb,hn,hwf,hx⟩:=k2;simp only [R] at h ⊢;refine ⟨e.ρ j,es,ck,h.2,k1,by rw [hp.w];exact hb,hn,hwf,fun i x hix=>?_⟩;have hi':i < es.size:=(Array.getElem?_eq_some_iff.1 hix).1;obtain ⟨s1,s2⟩:=hs i Aa;obtain ⟨⟨q1,q2⟩,q3,q4⟩:=hx i x hix;unfold RS at q2 q4;refine ⟨⟨by rw [B0 s1];exact q1,?_⟩,by rw [B0 s2];exact q3,?_⟩
    ·rw [Gv s1];split
     ·rename_i ha;simp only [ha] at q2;obtain ⟨c,k1,k2⟩:=q2;exact ⟨c,k1,BN hp s1 k2⟩
     ·rename_i ha;simp only [ha] at q2;exact BN hp s1 q2
    ·rw [Gv s2];split
     ·rename_i ha;simp only [ha] at q4;obtain ⟨c,k1,k2⟩:=q4;exact ⟨c,k1,BN hp s2 k2⟩
     ·rename_i ha;simp only [ha] at q4;exact BN hp s2 q4
theorem Nr {H:Hp} {m z:List Nat} {e e2:Env} (hp:Pull H m z e e2) {v u:V} {x:Value} (hs:Aw H m z v u) (h:RS e u x):RS e2 v x:=by
 unfold RS at *
 rw [Gv hs];split
 ·rename_i ha;simp only [ha] at h;obtain ⟨c,h1,h2⟩:=h;exact ⟨c,h1,BN hp hs h2⟩
 ·rename_i ha;simp only [ha] at h;exact BN hp hs h
theorem XP {H:Hp} {m z:List Nat} {e e2:Env} (hp:Pull H m z e e2):∀ {v u:V} {xs:Array Value},Aw H m z v u→RT e u xs→RT e2 v xs
 | .fcons i v r, u, xs, hs, h => by
   cases u <;> simp only [Aw] at hs;obtain ⟨rfl,hv,hr⟩:=hs;simp only [RT] at h ⊢;obtain ⟨⟨h0,y,h1,h2⟩,h3⟩:=h;rw [B0 hv];exact ⟨⟨h0,y,h1,Nr hp hv h2⟩,XP hp hr h3⟩
 | .junk,_,_,_,_ | .int ..,_,_,_,_ | .bool _,_,_,_,_ | .str _,_,_,_,_ | .nilp,_,_,_,_ | .ptr ..,_,_,_,_ | .imm _,_,_,_,_ | .nils,_,_,_,_ | .sl ..,_,_,_,_ | .lst ..,_,_,_,_ | .nilm,_,_,_,_ | .map _,_,_,_,_ | .nilf,_,_,_,_ | .fn ..,_,_,_,_ | .nili,_,_,_,_ | .ifc ..,_,_,_,_ | .st ..,_,_,_,_ | .ar ..,_,_,_,_ | .fnil,_,_,_,_ | .tup _,_,_,_,_ | .mp ..,_,_,_,_ | .fm ..,_,_,_,_=>trivial
def B5 (H:Hp) (m z:List Nat) (v u:V):Prop :=
 match v with
 | .junk=>True
 | v=>Aw H m z v u
theorem N9 {H:Hp} {m z:List Nat} {e e2:Env} (hp:Pull H m z e e2) {v u:V} {x:Value} (hs:B5 H m z v u) (h:RV e u x):RV e2 v x:=by
 cases v;case junk=>trivial
 case tup fs =>
  cases u <;> simp only [B5,Aw] at hs;obtain ⟨xs,h1,h2⟩:=h;exact ⟨xs,h1,XP hp hs h2⟩
 all_goals
  simp only [B5] at hs;have hsol:=B0 hs;cases u <;> first
   | (simp only [Aw,reduceCtorEq] at hs;done)
   | (simp only [Aw] at hs;done)
   | (simp only [RV] at h;done)
   | (rw [Bb rfl] at h;rw [Bb rfl];exact Nr hp hs h)
   | skip
def a7:=@Aw.eq_1
def a8:=@Aw.eq_2
def a9:=@Aw.eq_3
def d8:=@Aw.eq_4
end Mv
