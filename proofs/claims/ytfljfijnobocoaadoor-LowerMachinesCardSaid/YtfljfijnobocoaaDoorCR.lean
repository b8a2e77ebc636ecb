/- A part. -/
import Derived.Test.YtfljfijnobocoaaDoorCQ
set_option linter.all false
namespace Mv
open Go
variable {M:Seat}
inductive It where
 | code (c:LC)
 | blk (id:Nat)
 | inv (J:List V→Hp→Nat→Prop)
inductive Jt where
 | code (c:Code)
 | blk (id:Nat)
 | inv (J:List V→Hp→Nat→Prop)
def Dy (M:Seat):List Jt→List It→Prop
 | [],[]=>True
 | .code C :: r,.code c :: r'=>B6 M C c=true∧Dy M r r'
 | .blk i :: r,.blk i' :: r'=>i=i'∧Dy M r r'
 | .inv J :: r,.inv J' :: r'=>J=J'∧Dy M r r'
 | _,_=>False
def CK (M:Seat) (c:Ctx) (Q:List V→Hp→Nat→Prop):List Jt→Exit→Act→World→Prop
 | [],.normal,a,w | [],.ret,a,w=>∃ A H N,RX M c A H N a w∧Q A H N
 | [],_,_,_=>False
 | .code C :: r,.normal,a,w=>C.wp M.P (CK M c Q r) a w
 | .code _ :: r,ex,a,w=>CK M c Q r ex a w
 | .blk id :: r,.exit j,a,w=>if j=id then CK M c Q r .normal a w else CK M c Q r (.exit j) a w
 | .blk _ :: r,ex,a,w=>CK M c Q r ex a w
 | .inv J :: _,.normal,a,w=>∃ A H N,RX M c A H N a w∧J A H N
 | .inv _ :: r,ex,a,w=>CK M c Q r ex a w
theorem RD {c:Ctx} {Q:List V→Hp→Nat→Prop} {C:Code} {r:List Jt}:CK M c Q (.code C :: r)=Exit.then (C.wp M.P (CK M c Q r)) (CK M c Q r):=by
 funext ex a w;cases ex <;> rfl
theorem TV {c:Ctx} {Q:List V→Hp→Nat→Prop} {i:Nat} {r:List Jt}:CK M c Q (.blk i :: r)=Exit.inBlock i (CK M c Q r):=by
 funext ex a w;cases ex <;> rfl
def BQ (id:Nat):List It→Option (List It)
 | []=>none
 | .blk i :: r=>if id=i then some r else BQ id r
 | _ :: r=>BQ id r
def Gn (P:Program) (C:Code) (Q:Exit→Act→World→Prop) (a:Act) (w:World):Prop :=
 ∀ (b:Frame) (k:List Item) (cs:List Frame),∃ e a' w',Q e a' w'∧Arrives P (lone (b.at a (.code C :: .inLoop C :: k)) cs w) b k cs e a' w'
theorem Gn.wp {P:Program} {C:Code} {Q:Exit→Act→World→Prop} {a:Act} {w:World} (h:Gn P C Q a w):(Code.loop C).wp P Q a w:=by
 intro b k cs
 obtain ⟨e,a',w',hq,harr⟩:=h b k cs
 exact ⟨e,a',w',hq,.of_steps (.one step_loop) harr⟩
def HH (M:Seat) (x:Ctx) (Q:List V→Hp→Nat→Prop) (c:LC) (k:List It) (A:List V) (H:Hp) (N:Nat):Prop :=
 ∀ a w kr C,RX M x A H N a w→Dy M kr k→B6 M C c=true→Gn M.P C (CK M x Q kr) a w
def Bm (M:Seat) (x:Ctx) (Q:List V→Hp→Nat→Prop) (k:List It) (N:Nat) (A:List V) (H:Hp):Prop :=
 ∀ (a:Act) (w:World) (kr:List Jt),RX M x A H N a w→Dy M kr k→CK M x Q kr .normal a w
def ex (M:Seat) (x:Ctx) (Q:List V→Hp→Nat→Prop):Nat→List It→Nat→List V→Hp→Prop
 | 0,k,N,A,H=>Bm M x Q k N A H
 | _ + 1,[],N,A,H=>Q A H N
 | n + 1, .code c :: k, N, A, H =>
   match c with
   | .skip=>ex M x Q n k N A H
   | .reg ops=>Ro M (ex M x Q n k (N + 16 * ops.length)) ops N A H
   | .regd L=>AJ M (ex M x Q n k (N + 32 * L.length)) L.length N (F5 L 0) L 0 A H [(0,H)] []
   | .seq c d=>ex M x Q n (.code c :: .code d :: k) N A H
   | .cond y c d => match y.ev A with
     | .bool t=>(t=true→ex M x Q n (.code c :: k) N A H)∧(t=false→ex M x Q n (.code d :: k) N A H)
     | _=>False
   | .block id c=>ex M x Q n (.code c :: .blk id :: k) N A H
   | .loop c=>HH M x Q c k A H N
   | .exit id => match BQ id k with
     | some k'=>ex M x Q n k' N A H
     | none=>False
   | .ret=>Q A H N
 | n + 1,.blk _ :: k,N,A,H=>ex M x Q n k N A H
 | _ + 1,.inv J :: _,N,A,H=>J A H N
theorem Ey {x:Ctx} {Q:List V→Hp→Nat→Prop} {id:Nat} {a:Act} {w:World}:∀ (kr:List Jt) (k k':List It),Dy M kr k→BQ id k=some k'→(∀ kr',Dy M kr' k'→CK M x Q kr' .normal a w)→CK M x Q kr (.exit id) a w
 | [],[],_,_,h,_=>by simp [BQ] at h
 | .code C :: r, .code c :: r', k', hm, h, hp => by
   simp only [BQ] at h
   exact Ey r r' k' hm.2 h hp
 | .inv J :: r, .inv J' :: r', k', hm, h, hp => by
   simp only [BQ] at h
   exact Ey r r' k' hm.2 h hp
 | .blk i :: r, .blk i' :: r', k', hm, h, hp => by
   obtain ⟨rfl,hm⟩:=hm
   simp only [BQ] at h
   simp only [CK]
   split at h
   ·rename_i hid
    rw [if_pos hid]
    simp only [Option.some.injEq] at h
    subst h
    exact hp r hm
   ·rename_i hid
    rw [if_neg hid]
    exact Ey r r' k' hm h hp
 | [],_ :: _,_,hm,_,_=>by simp [Dy] at hm
 | _ :: _,[],_,hm,_,_=>by simp [Dy] at hm
 | .code _ :: _,.blk _ :: _,_,hm,_,_=>by simp [Dy] at hm
 | .code _ :: _,.inv _ :: _,_,hm,_,_=>by simp [Dy] at hm
 | .blk _ :: _,.code _ :: _,_,hm,_,_=>by simp [Dy] at hm
 | .blk _ :: _,.inv _ :: _,_,hm,_,_=>by simp [Dy] at hm
 | .inv _ :: _,.code _ :: _,_,hm,_,_=>by simp [Dy] at hm
 | .inv _ :: _,.blk _ :: _,_,hm,_,_=>by simp [Dy] at hm
theorem Gq {x:Ctx} {Q:List V→Hp→Nat→Prop} {a:Act} {w:World} (h:∃ A H N,RX M x A H N a w∧Q A H N):∀ kr:List Jt,CK M x Q kr .ret a w
 | []=>h
 | .code _ :: r=>Gq h r
 | .blk _ :: r=>Gq h r
 | .inv _ :: r=>Gq h r
theorem Cj {x:Ctx} {Q:List V→Hp→Nat→Prop}:∀ (n:Nat) (k:List It) (N:Nat) (A:List V) (H:Hp),ex M x Q n k N A H→Bm M x Q k N A H
 | 0,_,_,_,_,h,a,w,kr,hs,hm=>h a w kr hs hm
 | n + 1, [], N, A, H, h, a, w, kr, hs, hm => by
   cases kr with
   | nil=>exact ⟨A,H,N,hs,h⟩
   | cons j r=>cases j <;> exact hm.elim
 | n + 1, .blk i :: k, N, A, H, h, a, w, kr, hs, hm => by
   cases kr with
   | nil=>exact hm.elim
   | cons j r =>
     cases j <;> try (exact hm.elim)
     simp only [CK]
     exact Cj n k N A H h a w r hs hm.2
 | n + 1, .inv J :: k, N, A, H, h, a, w, kr, hs, hm => by
   cases kr with
   | nil=>exact hm.elim
   | cons j r =>
     cases j <;> try (exact hm.elim)
     obtain ⟨rfl,hm⟩:=hm
     exact ⟨A,H,N,hs,h⟩
 | n + 1, .code c :: k, N, A, H, h, a, w, kr, hs, hm => by
   cases kr with
   | nil=>exact hm.elim
   | cons j r =>
     cases j <;> try (exact hm.elim)
     rename_i C
     obtain ⟨hc,hm⟩:=hm
     show C.wp M.P (CK M x Q r) a w
     cases c with
     | skip =>
       cases C <;> simp only [B6,Bool.false_eq_true] at hc
       exact wp_skip (Cj n k N A H h a w r hs hm)
     | reg ops =>
       cases C <;> simp only [B6,Bool.false_eq_true] at hc
       rename_i id os draw
       simp only [Bool.and_eq_true,beq_iff_eq] at hc
       obtain ⟨rfl,hc⟩:=hc
       obtain ⟨e,rfl,hI,hA,hD,hk,hdef⟩:=hs
       refine wp_region_list (MB os.toList ops N A H e a hc hI hA hD hk hdef ?_ h)
       intro A' H' N' a' w' hs' hN hK
       subst hN
       exact Cj n k _ A' H' hK a' w' r hs' hm
     | regd L =>
       cases C <;> simp only [B6,Bool.false_eq_true] at hc
       rename_i id os draw
       simp only [Bool.and_eq_true,beq_iff_eq] at hc
       obtain ⟨rfl,hc⟩:=hc
       obtain ⟨e,rfl,hI,hA,hD,hk,hdef⟩:=hs
       obtain ⟨hle,hI'⟩:=hI.drew
       refine wp_region_any (JQ hc).mixed ?_
       refine SE hc hI' ⟨hA.len,fun t=>GG hle (hA.val t)⟩ hD hdef (fun j hj=>(K3 L 0 j hj).2) (fun A' H' a' e' q1 q2 q3 q4 q5=>?_) h
       exact Cj n k _ A' H' q5 a' e'.w r ⟨e',rfl,q1,q2,q3,by omega,q4⟩ hm
     | seq c d =>
       cases C <;> simp only [B6,Bool.false_eq_true] at hc
       simp only [Bool.and_eq_true] at hc
       refine wp_seq ?_
       rw [← RD]
       exact Cj n (.code c :: .code d :: k) N A H h a w (.code _ :: .code _ :: r) hs ⟨hc.1,hc.2,hm⟩
     | cond y c d =>
       cases C <;> simp only [B6,Bool.false_eq_true] at hc
       simp only [Bool.and_eq_true] at hc
       obtain ⟨⟨hx,hc1⟩,hc2⟩:=hc
       have hs':=hs
       obtain ⟨e,rfl,hI,hA,hD,hk,hdef⟩:=hs'
       have hv:=Ax hI.φ hA hx (Co hI hx)
       simp only [ex] at h
       split at h
       ·rename_i t ht
        rw [ht] at hv
        refine wp_cond_split (Ee hv) (fun htt=>?_) (fun htt=>?_)
        ·exact Cj n (.code c :: k) N A H (h.1 htt) a e.w (.code _ :: r) hs ⟨hc1,hm⟩
        ·exact Cj n (.code d :: k) N A H (h.2 htt) a e.w (.code _ :: r) hs ⟨hc2,hm⟩
       ·exact h.elim
     | block id c =>
       cases C <;> simp only [B6,Bool.false_eq_true] at hc
       simp only [Bool.and_eq_true,beq_iff_eq] at hc
       obtain ⟨rfl,hc⟩:=hc
       refine wp_block ?_
       rw [← TV]
       exact Cj n (.code c :: .blk _ :: k) N A H h a w (.code _ :: .blk _ :: r) hs ⟨hc,rfl,hm⟩
     | loop c =>
       cases C <;> simp only [B6,Bool.false_eq_true] at hc
       exact (h a w r _ hs hm hc).wp
     | exit id =>
       cases C <;> simp only [B6,Bool.false_eq_true] at hc
       simp only [beq_iff_eq] at hc
       subst hc
       simp only [ex] at h
       split at h
       ·rename_i k' hd
        exact wp_exit (Ey r k k' hm hd (fun kr' hm'=>Cj n k' N A H h a w kr' hs hm'))
       ·exact h.elim
     | ret =>
       cases C <;> simp only [B6,Bool.false_eq_true] at hc
       exact wp_ret (Gq ⟨A,H,N,hs,h⟩ r)
theorem es {x:Ctx} {Q:List V→Hp→Nat→Prop} (n:Nat) {k:List It} {N:Nat} {A:List V} {H:Hp} (h:ex M x Q n k N A H):Bm M x Q k N A H:=Cj n k N A H h
theorem Tt {P:Program} {c:Code} {Q:Exit→Act→World→Prop} {σ:Type} (I:σ→Act→World→Prop) (μ:σ→Nat)
 (round:∀ s a w,I s a w→c.wp P (Exit.then (fun a' w'=>∃ s',I s' a' w'∧μ s' < μ s) Q) a w):∀ (s:σ) (a:Act) (w:World),I s a w→Gn P c Q a w:=by
 have key:∀ n (s:σ) a w,μ s=n→I s a w→∀ (b:Frame) (k:List Item) (cs:List Frame),
  ∃ e a' w',Q e a' w'∧Arrives P (lone (b.at a (.code c :: .inLoop c :: k)) cs w) b k cs e a' w':=by
  intro n
  induction n using Nat.strongRecOn with
  | _ n ih =>
    intro s a w hn hI b k cs
    obtain ⟨e,a₁,w₁,hq,harr⟩:=round s a w hI b (.inLoop c :: k) cs
    cases e with
    | normal =>
      obtain ⟨s',hI₁,hlt⟩:=hq
      obtain ⟨e₂,a₂,w₂,hq₂,harr₂⟩:=ih (μ s') (hn ▸ hlt) s' a₁ w₁ rfl hI₁ b k cs
      exact ⟨e₂,a₂,w₂,hq₂,.of_steps (Steps.trans harr (.one step_inLoop)) harr₂⟩
    | exit id=>exact ⟨_,a₁,w₁,hq,.pass (x:=.inLoop c) rfl (fun _ _=>.inl B5) harr⟩
    | goto l=>exact ⟨_,a₁,w₁,hq,.pass (x:=.inLoop c) rfl (fun _ _=>.inl B5) harr⟩
    | ret=>exact ⟨_,a₁,w₁,hq,.pass (x:=.inLoop c) rfl (fun _ _=>.inl B5) harr⟩
    | panic ch=>exact ⟨_,a₁,w₁,hq,.pass (x:=.inLoop c) rfl (fun _ _=>.inl B5) harr⟩
    | outgrown=>exact ⟨_,a₁,w₁,hq,.pass (x:=.inLoop c) rfl (fun _ _=>.inl B5) harr⟩
 intro s a w h b k cs
 exact key _ s a w rfl h b k cs
def Ao (M:Seat) (x:Ctx) (A:List V) (H:Hp) (N:Nat) (A':List V) (H':Hp) (N':Nat):Prop:=∀ a w,RX M x A H N a w→RX M x A' H' N' a w
theorem Ao.refl {x:Ctx} {A:List V} {H:Hp} {N:Nat}:Ao M x A H N A H N:=fun _ _ h=>h
theorem An {x:Ctx} {Q:List V→Hp→Nat→Prop} {c:LC} {k:List It} {A:List V} {H:Hp} {N:Nat} {σ:Type} (I:σ→Prop) (sA:σ→List V) (sH:σ→Hp) (sN:σ→Nat) (μ:σ→Nat) (s0:σ)
 (hI:I s0) (hw:Ao M x A H N (sA s0) (sH s0) (sN s0))
 (round:∀ s,I s→Bm M x Q (.code c :: .inv (fun A' H' N'=>∃ s',I s'∧μ s' < μ s∧Ao M x A' H' N' (sA s') (sH s') (sN s')) :: k) (sN s) (sA s) (sH s)) :
 HH M x Q c k A H N:=by
 intro a w kr C hs hm hc
 refine Tt (σ:=σ) (fun s a w=>I s∧RX M x (sA s) (sH s) (sN s) a w) μ ?_ s0 a w ⟨hI,hw a w hs⟩
 rintro s a w ⟨hIs,hss⟩
 have hn:=round s hIs
 have:=hn a w (.code C :: .inv _ :: kr) hss ⟨hc,rfl,hm⟩
 have hp:CK M x Q (.inv (fun A' H' N'=>∃ s',I s'∧μ s' < μ s∧Ao M x A' H' N' (sA s') (sH s') (sN s')) :: kr)=Exit.then (fun a' w'=>∃ A' H' N',RX M x A' H' N' a' w'∧∃ s',I s'∧μ s' < μ s∧Ao M x A' H' N' (sA s') (sH s') (sN s')) (CK M x Q kr):=by
  funext ex a w;cases ex <;> rfl
 have h2:C.wp M.P (CK M x Q (.inv (fun A' H' N'=>∃ s',I s'∧μ s' < μ s∧Ao M x A' H' N' (sA s') (sH s') (sN s')) :: kr)) a w:=this
 rw [hp] at h2
 refine Code.wp_mono (fun ex a' w' h=>?_) h2
 cases ex <;> try (exact h)
 obtain ⟨A',H',N',hs',s',h1,h3,h4⟩:=h
 exact ⟨s',⟨h1,h4 _ _ hs'⟩,h3⟩
theorem AW {x:Ctx} {Q:List V→Hp→Nat→Prop} {c:LC} {k:List It} {A:List V} {H:Hp} {N:Nat}
 (h:Bm M x Q (.code c :: .inv (fun A' H' N'=>HH M x Q c k A' H' N') :: k) N A H):HH M x Q c k A H N:=by
 intro a w kr C hs hm hc
 have h1:=h a w (.code C :: .inv _ :: kr) hs ⟨hc,rfl,hm⟩
 have hp:CK M x Q (.inv (fun A' H' N'=>HH M x Q c k A' H' N') :: kr)=Exit.then (fun a' w'=>∃ A' H' N',RX M x A' H' N' a' w'∧HH M x Q c k A' H' N') (CK M x Q kr):=by
  funext ex a w;cases ex <;> rfl
 have h2:C.wp M.P (CK M x Q (.inv (fun A' H' N'=>HH M x Q c k A' H' N') :: kr)) a w:=h1
 rw [hp] at h2
 intro b kk cs
 obtain ⟨e,a₁,w₁,hq,harr⟩:=h2 b (.inLoop C :: kk) cs
 cases e with
 | normal =>
   obtain ⟨A',H',N',hs',hl⟩:=hq
   obtain ⟨e₂,a₂,w₂,hq₂,harr₂⟩:=hl a₁ w₁ kr C hs' hm hc b kk cs
   exact ⟨e₂,a₂,w₂,hq₂,.of_steps (Steps.trans harr (.one step_inLoop)) harr₂⟩
 | exit id=>exact ⟨_,a₁,w₁,hq,.pass (x:=.inLoop C) rfl (fun _ _=>.inl B5) harr⟩
 | goto l=>exact ⟨_,a₁,w₁,hq,.pass (x:=.inLoop C) rfl (fun _ _=>.inl B5) harr⟩
 | ret=>exact ⟨_,a₁,w₁,hq,.pass (x:=.inLoop C) rfl (fun _ _=>.inl B5) harr⟩
 | panic ch=>exact ⟨_,a₁,w₁,hq,.pass (x:=.inLoop C) rfl (fun _ _=>.inl B5) harr⟩
 | outgrown=>exact ⟨_,a₁,w₁,hq,.pass (x:=.inLoop C) rfl (fun _ _=>.inl B5) harr⟩
end Mv
