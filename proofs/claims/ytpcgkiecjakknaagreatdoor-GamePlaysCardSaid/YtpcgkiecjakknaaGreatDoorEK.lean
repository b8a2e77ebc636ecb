/- A part. -/
import Derived.Test.YtpcgkiecjakknaaGreatDoorEJ
set_option linter.all false
namespace Mv
open Go
variable {M:Seat}
inductive It where
 | code (c:LC)
 | blk (id:Nat)
 | inv (J:List V→Hp→Nat→Prop)
inductive Jt where
 | code (c:Code)
 | blk (id:Nat)
 | inv (J:List V→Hp→Nat→Prop)
def Dy (M:Seat):List Jt→List It→Prop
 | [],[]=>True
 | .code C :: r,.code c :: r'=>B6 M C c=true∧Dy M r r'
 | .blk i :: r,.blk i' :: r'=>i=i'∧Dy M r r'
 | .inv J :: r,.inv J' :: r'=>J=J'∧Dy M r r'
 | _,_=>False
def CK (M:Seat) (c:Ctx) (Q:List V→Hp→Nat→Prop):List Jt→Exit→Act→World→Prop
 | [],.normal,a,w | [],.ret,a,w=>∃ A H N,RX M c A H N a w∧Q A H N
 | [],_,_,_=>False
 | .code C :: r,.normal,a,w=>C.wp M.P (CK M c Q r) a w
 | .code _ :: r,ex,a,w=>CK M c Q r ex a w
 | .blk id :: r,.exit j,a,w=>if j=id then CK M c Q r .normal a w else CK M c Q r (.exit j) a w
 | .blk _ :: r,ex,a,w=>CK M c Q r ex a w
 | .inv J :: _,.normal,a,w=>∃ A H N,RX M c A H N a w∧J A H N
 | .inv _ :: r,ex,a,w=>CK M c Q r ex a w
theorem RD {c:Ctx} {Q:List V→Hp→Nat→Prop} {C:Code} {r:List Jt}:CK M c Q (.code C :: r)=Exit.then (C.wp M.P (CK M c Q r)) (CK M c Q r):=by
 funext ex a w;cases ex <;> rfl
theorem TV {c:Ctx} {Q:List V→Hp→Nat→Prop} {i:Nat} {r:List Jt}:CK M c Q (.blk i :: r)=Exit.inBlock i (CK M c Q r):=by
 funext ex a w;cases ex <;> rfl
def BQ (id:Nat):List It→Option (List It)
 | []=>none
 | .blk i :: r=>if id=i then some r else BQ id r
 | _ :: r=>BQ id r
def Gn (P:Program) (C:Code) (Q:Exit→Act→World→Prop) (a:Act) (w:World):Prop :=
 ∀ (b:Frame) (k:List Item) (cs:List Frame),∃ e a' w',Q e a' w'∧Arrives P (lone (b.at a (.code C :: .inLoop C :: k)) cs w) b k cs e a' w'
theorem Gn.wp {P:Program} {C:Code} {Q:Exit→Act→World→Prop} {a:Act} {w:World} (h:Gn P C Q a w):(Code.loop C).wp P Q a w:=by
 intro b k cs
 obtain ⟨e,a',w',hq,harr⟩:=h b k cs
 exact ⟨e,a',w',hq,.of_steps (.one step_loop) harr⟩
def HH (M:Seat) (x:Ctx) (Q:List V→Hp→Nat→Prop) (c:LC) (k:List It) (A:List V) (H:Hp) (N:Nat):Prop :=
 ∀ a w kr C,RX M x A H N a w→Dy M kr k→B6 M C c=true→Gn M.P C (CK M x Q kr) a w
def Bm (M:Seat) (x:Ctx) (Q:List V→Hp→Nat→Prop) (k:List It) (N:Nat) (A:List V) (H:Hp):Prop :=
 ∀ (a:Act) (w:World) (kr:List Jt),RX M x A H N a w→Dy M kr k→CK M x Q kr .normal a w
def ex (M:Seat) (x:Ctx) (Q:List V→Hp→Nat→Prop):Nat→List It→Nat→List V→Hp→Prop
 | 0,k,N,A,H=>Bm M x Q k N A H
 | _ + 1,[],N,A,H=>Q A H N
 | n + 1, .code c :: k, N, A, H =>
   match c with
   | .skip=>ex M x Q n k N A H
   | .reg ops=>Ro M (ex M x Q n k (N + 16 * ops.length)) ops N A H
   | .regd L=>AJ M (ex M x Q n k (N + 32 * L.length)) L.length N (F5 L 0) L 0 A H [(0,H)] []
   | .seq c d=>ex M x Q n (.code c :: .code d :: k) N A H
   | .cond y c d => match y.ev A with
     | .bool t=>(t=true→ex M x Q n (.code c :: k) N A H)∧(t=false→ex M x Q n (.code d :: k) N A H)
     | _=>False
   | .block id c=>ex M x Q n (.code c :: .blk id :: k) N A H
   | .loop c=>HH M x Q c k A H N
   | .exit id => match BQ id k with
     | some k'=>ex M x Q n k' N A H
     | none=>False
   | .ret=>Q A H N
 | n + 1,.blk _ :: k,N,A,H=>ex M x Q n k N A H
 | _ + 1,.inv J :: _,N,A,H=>J A H N
theorem Ey {x:Ctx} {Q:List V→Hp→Nat→Prop} {id:Nat} {a:Act} {w:World}:∀ (kr:List Jt) (k k':List It),Dy M kr k→BQ id k=some k'→(∀ kr',Dy M kr' k'→CK M x Q kr' .normal a w)→CK M x Q kr (.exit id) a w
 | [],[],_,_,h,_=>by simp [BQ] at h
 | .code C :: r, .code c :: r', k', hm, h, hp => by
   simp only [BQ] at h
   exact Ey r r' k' hm.2 h hp
 | .inv J :: r, .inv J' :: r', k', hm, h, hp => by
   simp only [BQ] at h
   exact Ey r r' k' hm.2 h hp
 | .blk i :: r, .blk i' :: r', k', hm, h, hp => by
   obtain ⟨rfl,hm⟩:=hm
   simp only [BQ] at h
   simp only [CK]
   split at h
   ·rename_i hid
    rw [if_pos hid]
    simp only [Option.some.injEq] at h
    subst h
    exact hp r hm
   ·rename_i hid
    rw [if_neg hid]
    exact Ey r r' k' hm h hp
 | [],_ :: _,_,hm,_,_=>by simp [Dy] at hm
 | _ :: _,[],_,hm,_,_=>by simp [Dy] at hm
 | .code _ :: _,.blk _ :: _,_,hm,_,_=>by simp [Dy] at hm
 | .code _ :: _,.inv _ :: _,_,hm,_,_=>by simp [Dy] at hm
 | .blk _ :: _,.code _ :: _,_,hm,_,_=>by simp [Dy] at hm
 | .blk _ :: _,.inv _ :: _,_,hm,_,_=>by simp [Dy] at hm
 | .inv _ :: _,.code _ :: _,_,hm,_,_=>by simp [Dy] at hm
 | .inv _ :: _,.blk _ :: _,_,hm,_,_=>by simp [Dy] at hm
theorem Gq {x:Ctx} {Q:List V→Hp→Nat→Prop} {a:Act} {w:World} (h:∃ A H N,RX M x A H N a w∧Q A H N):∀ kr:List Jt,CK M x Q kr .ret a w
 | []=>h
 | .code _ :: r=>Gq h r
 | .blk _ :: r=>Gq h r
 | .inv _ :: r=>Gq h r
theorem Cj {x:Ctx} {Q:List V→Hp→Nat→Prop}:∀ (n:Nat) (k:List It) (N:Nat) (A:List V) (H:Hp),ex M x Q n k N A H→Bm M x Q k N A H
 | 0,_,_,_,_,h,a,w,kr,hs,hm=>h a w kr hs hm
 | n + 1, [], N, A, H, h, a, w, kr, hs, hm => by
   cases kr with
   | nil=>exact ⟨A,H,N,hs,h⟩
   | cons j r=>cases j <;> exact hm.elim
 | n + 1, .blk i :: k, N, A, H, h, a, w, kr, hs, hm => by
   cases kr with
   | nil=>exact hm.elim
   | cons j r =>
     cases j <;> try (exact hm.elim)
     simp only [CK]
     exact Cj n k N A H h a w r hs hm.2
 | n + 1, .inv J :: k, N, A, H, h, a, w, kr, hs, hm => by
   cases kr with
   | nil=>exact hm.elim
   | cons j r =>
     cases j <;> try (exact hm.elim)
     obtain ⟨rfl,hm⟩:=hm
     exact ⟨A,H,N,hs,h⟩
 | n + 1, .code c :: k, N, A, H, h, a, w, kr, hs, hm => by
   cases kr with
   | nil=>exact hm.elim
   | cons j r =>
     cases j <;> try (exact hm.elim)
     rename_i C
     obtain ⟨hc,hm⟩:=hm
     show C.wp M.P (CK M x Q r) a w
     cases c with
     | skip =>
       cases C <;> simp only [B6,Bool.false_eq_true] at hc
       exact wp_skip (Cj n k N A H h a w r hs hm)
     | reg ops =>
       cases C <;> simp only [B6,Bool.false_eq_true] at hc
       rename_i id os draw
       simp only [Bool.and_eq_true,beq_iff_eq] at hc
       obtain ⟨rfl,hc⟩:=hc
       obtain ⟨e,rfl,hI,hA,hD,hk,hdef⟩:=hs
       refine wp_region_list (MB os.toList ops N A H e a hc hI hA hD hk hdef ?_ h)
       intro A' H' N' a' w' hs' hN hK
       subst hN
       exact Cj n k _ A' H' hK a' w' r hs' hm
     | regd L =>
       cases C <;> simp only [B6,Bool.false_eq_true] at hc
       rename_i id os draw
       simp only [Bool.and_eq_true,beq_iff_eq] at hc
       obtain ⟨rfl,hc⟩:=hc
       obtain ⟨e,rfl,hI,hA,hD,hk,hdef⟩:=hs
       obtain ⟨hle,hI'⟩:=hI.drew
       refine wp_region_any (JQ hc).mixed ?_
       refine SE hc hI' ⟨hA.len,fun t=>GG hle (hA.val t)⟩ hD hdef (fun j hj=>(K3 L 0 j hj).2) (fun A' H' a' e' q1 q2 q3 q4 q5=>?_) h
       exact Cj n k _ A' H' q5 a' e'.w r ⟨e',rfl,q1,q2,q3,by omega,q4⟩ hm
     | seq c d =>
       cases C <;> simp only [B6,Bool.false_eq_true] at hc
       simp only [Bool.and_eq_true] at hc
       refine wp_seq ?_
       rw [← RD]
       exact Cj n (.code c :: .code d :: k) N A H h a w (.code _ :: .code _ :: r) hs ⟨hc.1,hc.2,hm⟩
     | cond y c d =>
       cases C <;> simp only [B6,Bool.false_eq_true] at hc
       simp only [Bool.and_eq_true] at hc
       obtain ⟨⟨hx,hc1⟩,hc2⟩:=hc
       have hs':=hs
       obtain ⟨e,rfl,hI,hA,hD,hk,hdef⟩:=hs'
       have hv:=Ax hI.φ hA hx (Co hI hx)
       simp only [ex] at h
       split at h
       ·rename_i t ht
        rw [ht] at hv
        refine wp_cond_split (Ee hv) (fun htt=>?_) (fun htt=>?_)
        ·exact Cj n (.code c :: k) N A H (h.1 htt) a e.w (.code _ :: r) hs ⟨hc1,hm⟩
        ·exact Cj n (.code d :: k) N A H (h.2 htt) a e.w (.code _ :: r) hs ⟨hc2,hm⟩
       ·exact h.elim
     | block id c =>
       cases C <;> simp only [B6,Bool.false_eq_true] at hc
       simp only [Bool.and_eq_true,beq_iff_eq] at hc
       obtain ⟨rfl,hc⟩:=hc
       refine wp_block ?_
       rw [← TV]
       exact Cj n (.code c :: .blk _ :: k) N A H h a w (.code _ :: .blk _ :: r) hs ⟨hc,rfl,hm⟩
     | loop c =>
       cases C <;> simp only [B6,Bool.false_eq_true] at hc
       exact (h a w r _ hs hm hc).wp
     | exit id =>
       cases C <;> simp only [B6,Bool.false_eq_true] at hc
       simp only [beq_iff_eq] at hc
       subst hc
       simp only [ex] at h
       split at h
       ·rename_i k' hd
        exact wp_exit (Ey r k k' hm hd (fun kr' hm'=>Cj n k' N A H h a w kr' hs hm'))
       ·exact h.elim
     | ret =>
       cases C <;> simp only [B6,Bool.false_eq_true] at hc
       exact wp_ret (Gq ⟨A,H,N,hs,h⟩ r)
theorem es {x:Ctx} {Q:List V→Hp→Nat→Prop} (n:Nat) {k:List It} {N:Nat} {A:List V} {H:Hp} (h:ex M x Q n k N A H):Bm M x Q k N A H:=Cj n k N A H h
theorem Tt {P:Program} {c:Code} {Q:Exit→Act→World→Prop} {σ:Type} (I:σ→Act→World→Prop) (μ:σ→Nat)
 (round:∀ s a w,I s a w→c.wp P (Exit.then (fun a' w'=>∃ s',I s' a' w'∧μ s' < μ s) Q) a w):∀ (s:σ) (a:Act) (w:World),I s a w→Gn P c Q a w:=by
 have key:∀ n (s:σ) a w,μ s=n→I s a w→∀ (b:Frame) (k:List Item) (cs:List Frame),
  ∃ e a' w',Q e a' w'∧Arrives P (lone (b.at a (.code c :: .inLoop c :: k)) cs w) b k cs e a' w':=by
  intro n
  induction n using Nat.strongRecOn with
  | _ n ih =>
    intro s a w hn hI b k cs
    obtain ⟨e,a₁,w₁,hq,harr⟩:=round s a w hI b (.inLoop c :: k) cs
    cases e with
    | normal =>
      obtain ⟨s',hI₁,hlt⟩:=hq
      obtain ⟨e₂,a₂,w₂,hq₂,harr₂⟩:=ih (μ s') (hn ▸ hlt) s' a₁ w₁ rfl hI₁ b k cs
      exact ⟨e₂,a₂,w₂,hq₂,.of_steps (Steps.trans harr (.one step_inLoop)) harr₂⟩
    | exit id=>exact ⟨_,a₁,w₁,hq,.pass (x:=.inLoop c) rfl (fun _ _=>.inl B5) harr⟩
    | goto l=>exact ⟨_,a₁,w₁,hq,.pass (x:=.inLoop c) rfl (fun _ _=>.inl B5) harr⟩
    | ret=>exact ⟨_,a₁,w₁,hq,.pass (x:=.inLoop c) rfl (fun _ _=>.inl B5) harr⟩
    | panic ch=>exact ⟨_,a₁,w₁,hq,.pass (x:=.inLoop c) rfl (fun _ _=>.inl B5) harr⟩
    | outgrown=>exact ⟨_,a₁,w₁,hq,.pass (x:=.inLoop c) rfl (fun _ _=>.inl B5) harr⟩
 intro s a w h b k cs
 exact key _ s a w rfl h b k cs
def Ao (M:Seat) (x:Ctx) (A:List V) (H:Hp) (N:Nat) (A':List V) (H':Hp) (N':Nat):Prop:=∀ a w,RX M x A H N a w→RX M x A' H' N' a w
theorem Ao.refl {x:Ctx} {A:List V} {H:Hp} {N:Nat}:Ao M x A H N A H N:=fun _ _ h=>h
theorem An {x:Ctx} {Q:List V→Hp→Nat→Prop} {c:LC} {k:List It} {A:List V} {H:Hp} {N:Nat} {σ:Type} (I:σ→Prop) (sA:σ→List V) (sH:σ→Hp) (sN:σ→Nat) (μ:σ→Nat) (s0:σ)
 (hI:I s0) (hw:Ao M x A H N (sA s0) (sH s0) (sN s0))
 (round:∀ s,I s→Bm M x Q (.code c :: .inv (fun A' H' N'=>∃ s',I s'∧μ s' < μ s∧Ao M x A' H' N' (sA s') (sH s') (sN s')) :: k) (sN s) (sA s) (sH s)) :
 HH M x Q c k A H N:=by
 intro a w kr C hs hm hc
 refine Tt (σ:=σ) (fun s a w=>I s∧RX M x (sA s) (sH s) (sN s) a w) μ ?_ s0 a w ⟨hI,hw a w hs⟩
 rintro s a w ⟨hIs,hss⟩
 have hn:=round s hIs
 have:=hn a w (.code C :: .inv _ :: kr) hss ⟨hc,rfl,hm⟩
 have hp:CK M x Q (.inv (fun A' H' N'=>∃ s',I s'∧μ s' < μ s∧Ao M x A' H' N' (sA s') (sH s') (sN s')) :: kr)=Exit.then (fun a' w'=>∃ A' H' N',RX M x A' H' N' a' w'∧∃ s',I s'∧μ s' < μ s∧Ao M x A' H' N' (sA s') (sH s') (sN s')) (CK M x Q kr):=by
  funext ex a w;cases ex <;> rfl
 have h2:C.wp M.P (CK M x Q (.inv (fun A' H' N'=>∃ s',I s'∧μ s' < μ s∧Ao M x A' H' N' (sA s') (sH s') (sN s')) :: kr)) a w:=this
 rw [hp] at h2
 refine Code.wp_mono (fun ex a' w' h=>?_) h2
 cases ex <;> try (exact h)
 obtain ⟨A',H',N',hs',s',h1,h3,h4⟩:=h
 exact ⟨s',⟨h1,h4 _ _ hs'⟩,h3⟩
theorem Bm.weak {x:Ctx} {Q:List V→Hp→Nat→Prop} {k:List It} {A:List V} {H:Hp} {N:Nat} (A':List V) (H':Hp) (N':Nat) (hw:Ao M x A H N A' H' N') (h:Bm M x Q k N' A' H'):Bm M x Q k N A H :=
 fun a w kr hs hm=>h a w kr (hw a w hs) hm
theorem AW {x:Ctx} {Q:List V→Hp→Nat→Prop} {c:LC} {k:List It} {A:List V} {H:Hp} {N:Nat}
 (h:Bm M x Q (.code c :: .inv (fun A' H' N'=>HH M x Q c k A' H' N') :: k) N A H):HH M x Q c k A H N:=by
 intro a w kr C hs hm hc
 have h1:=h a w (.code C :: .inv _ :: kr) hs ⟨hc,rfl,hm⟩
 have hp:CK M x Q (.inv (fun A' H' N'=>HH M x Q c k A' H' N') :: kr)=Exit.then (fun a' w'=>∃ A' H' N',RX M x A' H' N' a' w'∧HH M x Q c k A' H' N') (CK M x Q kr):=by
  funext ex a w;cases ex <;> rfl
 have h2:C.wp M.P (CK M x Q (.inv (fun A' H' N'=>HH M x Q c k A' H' N') :: kr)) a w:=h1
 rw [hp] at h2
 intro b kk cs
 obtain ⟨e,a₁,w₁,hq,harr⟩:=h2 b (.inLoop C :: kk) cs
 cases e with
 | normal =>
   obtain ⟨A',H',N',hs',hl⟩:=hq
   obtain ⟨e₂,a₂,w₂,hq₂,harr₂⟩:=hl a₁ w₁ kr C hs' hm hc b kk cs
   exact ⟨e₂,a₂,w₂,hq₂,.of_steps (Steps.trans harr (.one step_inLoop)) harr₂⟩
 | exit id=>exact ⟨_,a₁,w₁,hq,.pass (x:=.inLoop C) rfl (fun _ _=>.inl B5) harr⟩
 | goto l=>exact ⟨_,a₁,w₁,hq,.pass (x:=.inLoop C) rfl (fun _ _=>.inl B5) harr⟩
 | ret=>exact ⟨_,a₁,w₁,hq,.pass (x:=.inLoop C) rfl (fun _ _=>.inl B5) harr⟩
 | panic ch=>exact ⟨_,a₁,w₁,hq,.pass (x:=.inLoop C) rfl (fun _ _=>.inl B5) harr⟩
 | outgrown=>exact ⟨_,a₁,w₁,hq,.pass (x:=.inLoop C) rfl (fun _ _=>.inl B5) harr⟩
def Sj (H:Hp) (z:List Nat) (i:Nat):Bool:=z.contains i && Af H i && (hget H i).solid
def Az (H:Hp) (m z:List Nat):V→V→Prop
 | .junk,a=>a = .junk
 | .int k n,a=>a = .int k n
 | .bool b,a=>a = .bool b
 | .str s,a=>a = .str s
 | .nilp,a=>a = .nilp
 | .nils,a=>a = .nils
 | .nilm,a=>a = .nilm
 | .nilf,a=>a = .nilf
 | .nili,a=>a = .nili
 | .fnil,a=>a = .fnil
 | .ptr j p,a=>(match a with | .ptr i q=>m[j]?=some i∧As q=As p | _=>False)
 | .map j,a=>(match a with | .map i=>m[j]?=some i | _=>False)
 | .sl j p o n sz,a=>(match a with | .sl i q o' n' sz'=>m[j]?=some i∧(As q=As p∧o'=o∧n'=n∧sz'=sz) | _=>False)
 | .imm v, a => (match a with
   | .imm u=>Az H m z v u
   | .ptr i q=>Sj H z i=true∧(hget H i).ok q∧Az H m z v ((hget H i).get q)
   | _=>False)
 | .lst sz n f, a => (match a with
   | .lst sz' n' g=>(sz'=sz∧n'=n)∧∀ i,i < n→Az H m z (f i) (g i)
   | .sl i q o n' sz' => (sz' = sz ∧ n' = n) ∧ Sj H z i = true ∧ (hget H i).ok q ∧ (match (hget H i).get q with
     | .ar s L g=>s=sz∧o + n≤L∧∀ i,i < n→Az H m z (f i) (g (o + i))
     | _=>False)
   | .nils=>n=0
   | _=>False)
 | .fn f c,a=>(match a with | .fn f' c'=>f'=f∧Az H m z c c' | _=>False)
 | .ifc t v,a=>(match a with | .ifc t' v'=>t'=t∧Az H m z v v' | _=>False)
 | .st n fs,a=>(match a with | .st n' fs'=>n'=n∧Az H m z fs fs' | _=>False)
 | .ar sz n f,a=>(match a with | .ar sz' n' g=>(sz'=sz∧n'=n)∧∀ i,i < n→Az H m z (f i) (g i) | _=>False)
 | .fcons o v r,a=>(match a with | .fcons o' v' r'=>o'=o∧Az H m z v v'∧Az H m z r r' | _=>False)
 | .tup fs,a=>(match a with | .tup fs'=>Az H m z fs fs' | _=>False)
 | .mp n ks vs,a=>(match a with | .mp n' ks' vs'=>n'=n∧∀ i,i < n→Az H m z (ks i) (ks' i)∧Az H m z (vs i) (vs' i) | _=>False)
theorem Do {H:Hp} {m z:List Nat} {v u:V} (h:Az H m z v u):v.size=u.size:=by
 cases v <;> cases u <;> simp_all [Az,V.size]
theorem Qr {H:Hp} {m z:List Nat} {v u:V} (h:Az H m z v u):v.isAgg=u.isAgg:=by
 cases v <;> cases u <;> simp_all [Az,V.isAgg]
theorem Cb {H:Hp} {m z:List Nat} {v u:V} (h:Az H m z v u):v.solid=u.solid:=by
 cases v <;> cases u <;> simp_all [Az,V.solid]
theorem Lb {H:Hp} {m z:List Nat} {v u:V} (h:Az H m z v u):v.chain=u.chain:=by
 cases v <;> cases u <;> simp_all [Az,V.chain]
theorem XX {H:Hp} {m z:List Nat} {v u:V} (d:Nat) (h:Az H m z v u):v.flo d=u.flo d:=by
 cases v <;> cases u <;> simp_all [Az,V.flo]
structure Pull (H:Hp) (m z:List Nat) (e e2:Env):Prop where
 D:∀ j i,m[j]?=some i→e.D i→e2.D j∧e2.ρ j=e.ρ i
 im:∀ b,e.im b→e2.im b
 fz:∀ i,Sj H z i=true→e2.im (e.ρ i)∧∃ cells el,e.w.heap[e.ρ i]?=some (.cells cells el (0,0))∧(hget H i).size≤cells.size∧R e (hget H i) (cells.toList.take (hget H i).size)
 w:e2.w=e.w
 φ:e2.φ=e.φ
 τ:e2.τ=e.τ
theorem CW {H:Hp} {m z:List Nat} {e e2:Env} (hp:Pull H m z e e2):∀ {v u:V} {cs:List Value},Az H m z v u→R e u cs→R e2 v cs
 | .junk,u,cs,hs,h=>by simp only [Az] at hs;subst hs;exact h
 | .int _ _,u,cs,hs,h=>by simp only [Az] at hs;subst hs;exact h
 | .bool _,u,cs,hs,h=>by simp only [Az] at hs;subst hs;exact h
 | .str _,u,cs,hs,h=>by simp only [Az] at hs;subst hs;exact h
 | .nilp,u,cs,hs,h=>by simp only [Az] at hs;subst hs;exact h
 | .nils,u,cs,hs,h=>by simp only [Az] at hs;subst hs;exact h
 | .nilm,u,cs,hs,h=>by simp only [Az] at hs;subst hs;exact h
 | .nilf,u,cs,hs,h=>by simp only [Az] at hs;subst hs;exact h
 | .nili,u,cs,hs,h=>by simp only [Az] at hs;subst hs;exact h
 | .fnil,u,cs,hs,h=>trivial
 | .ptr j p, u, cs, hs, h => by
   cases u <;> simp only [Az] at hs
   obtain ⟨h1,h2⟩:=hs
   simp only [R] at h ⊢
   obtain ⟨d1,d2⟩:=hp.D _ _ h1 h.1
   rw [d2,← h2];exact ⟨d1,h.2⟩
 | .map j, u, cs, hs, h => by
   cases u <;> simp only [Az] at hs
   simp only [R] at h ⊢
   obtain ⟨d1,d2⟩:=hp.D _ _ hs h.1
   rw [d2];exact ⟨d1,h.2⟩
 | .sl j p o n sz, u, cs, hs, h => by
   cases u <;> simp only [Az] at hs
   obtain ⟨h1,h2,rfl,rfl,rfl⟩:=hs
   simp only [R] at h ⊢
   obtain ⟨d1,d2⟩:=hp.D _ _ h1 h.1
   rw [d2,← h2,hp.w];exact ⟨d1,h.2⟩
 | .imm v, u, cs, hs, h => by
   cases u <;> simp only [Az] at hs
   case imm u =>
    simp only [R] at h ⊢
    obtain ⟨b,o,c,el,fz,h1,h2,h3,h4,h5⟩:=h
    rw [Do hs,hp.w]
    exact ⟨b,o,c,el,fz,h1,hp.im b h2,h3,h4,CW hp hs h5⟩
   case ptr i q =>
    simp only [R] at h ⊢
    obtain ⟨h0,h1,h2⟩:=hs
    obtain ⟨k1,cells,el,hc,hsz,hR⟩:=hp.fz i h0
    have hlen:(cells.toList.take (hget H i).size).length=(hget H i).size:=DI
    obtain ⟨g1,g2⟩:=Ds hR hlen h1
    rw [hlen] at g1
    rw [Do h2,hp.w]
    refine ⟨_,_,cells,el,_,h.2,k1,hc,by omega,CW hp h2 ?_⟩
    rw [List.drop_take,List.take_take,Nat.min_eq_left Aa] at g2
    exact g2
 | .lst sz n f, u, cs, hs, h => by
   cases u <;> simp only [Az] at hs
   case lst sz' n' g =>
    obtain ⟨⟨rfl,rfl⟩,hs⟩:=hs
    simp only [R] at h ⊢
    obtain ⟨a,cap,h1,h2,h3⟩:=h
    refine ⟨a,cap,h1,h2,fun h0=>?_⟩
    obtain ⟨b,o,c,el,fz,k1,k2,k3,k4,k5⟩:=h3 h0
    refine ⟨b,o,c,el,fz,k1,hp.im b k2,by rw [hp.w];exact k3,k4,fun i hi=>⟨?_,CW hp (hs i hi) (k5 i hi).2⟩⟩
    rw [Cb (hs i hi),Do (hs i hi)]
    exact (k5 i hi).1
   case nils =>
    subst hs
    simp only [R] at h ⊢
    exact ⟨none,0,h,Nat.le_refl _,fun h=>absurd h (Nat.lt_irrefl _)⟩
   case sl i q o n' sz' =>
    obtain ⟨⟨rfl,rfl⟩,h0,h1,hs⟩:=hs
    split at hs
    case h_2=>exact hs.elim
    rename_i s L g hget
    obtain ⟨rfl,hL,hs⟩:=hs
    simp only [R] at h ⊢
    obtain ⟨_,b,cap,hcs,hcap,hle,_⟩:=h
    refine ⟨b,cap,hcs,hle,fun hn=>?_⟩
    have hb:=hcap.resolve_left Aa
    obtain ⟨k1,cells,el,hc,hsz,hR⟩:=hp.fz i h0
    have hlen:(cells.toList.take (Mv.hget H i).size).length=(Mv.hget H i).size:=DI
    obtain ⟨g1,g2⟩:=Ds hR hlen h1
    rw [hlen] at g1
    rw [hget] at g1 g2
    rw [List.drop_take,List.take_take,Nat.min_eq_left Aa] at g2
    have g1:As q + L * s≤(Mv.hget H i).size:=g1
    have g2:R e (.ar s L g) ((cells.toList.drop (As q)).take (L * s)):=g2
    simp only [R] at g2
    have hmul:∀ j,j≤L→j * s≤L * s:=fun j hj=>Nat.mul_le_mul_right _ hj
    refine ⟨_,_,cells,el,_,hb,k1,by rw [hp.w];exact hc,?_,fun j hj=>⟨?_,?_⟩⟩
    ·have:=hmul (o + n') hL
     rw [Nat.add_mul] at this
     omega
    ·have:=(g2.2 (o + j) Aa).1
     rw [Cb (hs j hj),Do (hs j hj)]
     exact this
    ·have g3:=(g2.2 (o + j) Aa).2
     refine CW hp (hs j hj) ?_
     have h3:=hmul (o + j + 1) Aa
     rw [Nat.add_mul,Nat.one_mul] at h3
     rw [List.drop_take,List.take_take,Nat.min_eq_left Aa,List.drop_drop] at g3
     have e1:As q + o * s + j * s=As q + (o + j) * s:=by rw [Nat.add_mul];omega
     rw [e1];exact g3
 | .fn f c, u, cs, hs, h => by
   cases u <;> simp only [Az] at hs
   obtain ⟨rfl,hs⟩:=hs
   simp only [R] at h ⊢
   obtain ⟨xs,h1,h2⟩:=h
   rw [hp.φ]
   exact ⟨xs,h1,CW hp hs h2⟩
 | .ifc t v, u, cs, hs, h => by
   cases u <;> simp only [Az] at hs
   obtain ⟨rfl,hs⟩:=hs
   simp only [R] at h ⊢
   obtain ⟨x,h1,h2,h3⟩:=h
   rw [hp.τ,Cb hs,Qr hs]
   refine ⟨x,h1,h2,?_⟩
   split at h3
   ·obtain ⟨c,k1,k2⟩:=h3;exact ⟨c,k1,CW hp hs k2⟩
   ·exact CW hp hs h3
 | .st n fs, u, cs, hs, h => by
   cases u <;> simp only [Az] at hs
   obtain ⟨rfl,hs⟩:=hs
   simp only [R] at h ⊢
   rw [Lb hs]
   exact ⟨h.1,h.2.1,CW hp hs h.2.2⟩
 | .ar sz n f, u, cs, hs, h => by
   cases u <;> simp only [Az] at hs
   obtain ⟨⟨rfl,rfl⟩,hs⟩:=hs
   simp only [R] at h ⊢
   refine ⟨h.1,fun i hi=>⟨?_,CW hp (hs i hi) (h.2 i hi).2⟩⟩
   rw [Cb (hs i hi),Do (hs i hi)]
   exact (h.2 i hi).1
 | .fcons o v r, u, cs, hs, h => by
   cases u <;> simp only [Az] at hs
   obtain ⟨rfl,hv,hr⟩:=hs
   simp only [R] at h ⊢
   rw [Lb hr,XX _ hr,Do hv]
   exact ⟨h.1,h.2.1,h.2.2.1,CW hp hv h.2.2.2.1,CW hp hr h.2.2.2.2⟩
 | .tup fs, u, cs, hs, h => by
   cases u <;> simp only [Az] at hs
   simp only [R] at h
 | .mp n ks vs, u, cs, hs, h => by
   cases u <;> simp only [Az] at hs
   simp only [R] at h
theorem Mb {H:Hp} {m z:List Nat} {e e2:Env} (hp:Pull H m z e e2) {v u:V} {x:Value} (hs:Az H m z v u) (h:RS e u x):RS e2 v x:=by
 unfold RS at *
 rw [Qr hs]
 split
 ·rename_i ha;simp only [ha] at h;obtain ⟨c,h1,h2⟩:=h;exact ⟨c,h1,CW hp hs h2⟩
 ·rename_i ha;simp only [ha] at h;exact CW hp hs h
theorem Tz {H:Hp} {m z:List Nat} {e e2:Env} (hp:Pull H m z e e2):∀ {v u:V} {xs:Array Value},Az H m z v u→RT e u xs→RT e2 v xs
 | .fcons i v r, u, xs, hs, h => by
   cases u <;> simp only [Az] at hs
   obtain ⟨rfl,hv,hr⟩:=hs
   simp only [RT] at h ⊢
   obtain ⟨⟨h0,y,h1,h2⟩,h3⟩:=h
   rw [Cb hv]
   exact ⟨⟨h0,y,h1,Mb hp hv h2⟩,Tz hp hr h3⟩
 | .junk,_,_,_,_ | .int ..,_,_,_,_ | .bool _,_,_,_,_ | .str _,_,_,_,_ | .nilp,_,_,_,_ | .ptr ..,_,_,_,_ | .imm _,_,_,_,_ | .nils,_,_,_,_ | .sl ..,_,_,_,_ | .lst ..,_,_,_,_ | .nilm,_,_,_,_ | .map _,_,_,_,_ | .nilf,_,_,_,_ | .fn ..,_,_,_,_ | .nili,_,_,_,_ | .ifc ..,_,_,_,_ | .st ..,_,_,_,_ | .ar ..,_,_,_,_ | .fnil,_,_,_,_ | .tup _,_,_,_,_ | .mp ..,_,_,_,_=>trivial
def Bi (H:Hp) (m z:List Nat) (v u:V):Prop :=
 match v with
 | .junk=>True
 | v=>Az H m z v u
theorem Lh {H:Hp} {m z:List Nat} {e e2:Env} (hp:Pull H m z e e2) {v u:V} {x:Value} (hs:Bi H m z v u) (h:RV e u x):RV e2 v x:=by
 cases v
 case junk=>trivial
 case tup fs =>
  cases u <;> simp only [Bi,Az] at hs
  obtain ⟨xs,h1,h2⟩:=h
  exact ⟨xs,h1,Tz hp hs h2⟩
 all_goals
  simp only [Bi] at hs
  have hsol:=Cb hs
  cases u <;> first
   | (simp only [Az,reduceCtorEq] at hs;done)
   | (simp only [Az] at hs;done)
   | (simp only [RV] at h;done)
   | (rw [AI rfl] at h;rw [AI rfl];exact Mb hp hs h)
   | skip
variable {M:Seat}
def Bd (H:Hp) (m z:List Nat):List V→List V→Prop
 | [],[]=>True
 | v :: r,u :: r'=>Bi H m z v u∧Bd H m z r r'
 | _,_=>False
def Br (H:Hp) (m z:List Nat):Hp→Prop
 | []=>True
 | (j,v) :: r=>(match m[j]? with | some i=>Af H i=true∧Az H m z v (hget H i) | none=>False)∧Br H m z r
theorem Gf {H:Hp} {m z:List Nat}:∀ {A B:List V},Bd H m z A B→A.length=B.length
 | [],[],_=>rfl
 | _ :: r,_ :: r',h=>by simp only [Bd] at h;simp [Gf h.2]
 | [],_ :: _,h=>by simp [Bd] at h
 | _ :: _,[],h=>by simp [Bd] at h
theorem Gc {H:Hp} {m z:List Nat}:∀ {A B:List V},Bd H m z A B→∀ t,Bi H m z (A.getD t .junk) (B.getD t .junk)
 | [],[],_,t=>by simp [Bi]
 | _ :: r, _ :: r', h, t => by
   simp only [Bd] at h
   cases t with
   | zero=>simpa using h.1
   | succ t=>simpa using Gc h.2 t
 | [],_ :: _,h,_=>by simp [Bd] at h
 | _ :: _,[],h,_=>by simp [Bd] at h
theorem Cw {H:Hp} {m z:List Nat}:∀ {H':Hp},Br H m z H'→∀ j,Af H' j=true→∃ i,m[j]?=some i∧Af H i=true∧Az H m z (hget H' j) (hget H i)
 | [],_,j,hj=>by simp [Af] at hj
 | (k, v) :: r, h, j, hj => by
   simp only [Br] at h
   by_cases hkj:k=j
   ·subst hkj
    obtain ⟨h1,_⟩:=h
    split at h1
    ·rename_i i hi
     exact ⟨i,hi,h1.1,by simpa [hget] using h1.2⟩
    ·exact h1.elim
   ·have hj':Af r j=true:=by
     simp only [Pi,beq_iff_eq] at hj
     exact hj.resolve_left hkj
    obtain ⟨i,h1,h2,h3⟩:=Cw h.2 j hj'
    exact ⟨i,h1,h2,by simpa [hget,hkj] using h3⟩
def Env.sim (e:Env) (H:Hp) (m z:List Nat):Env :=
 { ρ := fun j => match m[j]? with | some i => e.ρ i | none => 0
   D:=fun j=>∃ i,m[j]?=some i∧e.D i
   im:=fun b=>e.im b ∨ ∃ i,Sj H z i=true∧b=e.ρ i
   w:=e.w,φ:=e.φ,τ:=e.τ }
theorem Es {H:Hp} {z:List Nat} {i:Nat} (h:Sj H z i=true):i ∈ z∧Af H i=true∧(hget H i).solid=true:=by
 simp only [Sj,Bool.and_eq_true,List.contains_iff_mem] at h
 exact ⟨h.1.1,h.1.2,h.2⟩
theorem Pull.of {c:Ctx} {e:Env} {H:Hp} (hI:Inv M c e H) (m z:List Nat):Pull H m z e (e.sim H m z) where
 D j i hj hd:=⟨⟨i,hj,hd⟩,by simp [Env.sim,hj]⟩
 im b hb:=.inl hb
 fz i hi:=by
  obtain ⟨_,h1,h2⟩:=Es hi
  obtain ⟨cells,el,h3,h4,h5⟩:=hI.cells h1 h2
  exact ⟨.inr ⟨i,hi,rfl⟩,cells,el,h3,h4,h5⟩
 w:=rfl
 φ:=rfl
 τ:=rfl
theorem Qw (H:Hp) (m z:List Nat):∀ g,Az H m z (Sa g) (Sa g)
 | 0=>rfl
 | 1=>⟨⟨rfl,rfl⟩,fun _ _=>rfl⟩
 | 2=>⟨⟨rfl,rfl⟩,fun _ _=>rfl⟩
 | 3=>⟨⟨rfl,rfl⟩,fun _ _=>rfl⟩
 | _ + 4=>rfl
theorem KJ {H:Hp} {m z:List Nat} {e e2:Env} (hp:Pull H m z e e2) {i j:Nat} (hρ:e2.ρ j=e.ρ i) {v u:V} (hs:Az H m z v u) (h:D8 e i u):D8 e2 j v:=by
 cases v
 case mp n ks vs =>
  cases u <;> simp only [Az] at hs
  obtain ⟨rfl,hs⟩:=hs
  obtain ⟨es,clock,h1,h2,h3⟩:=h
  refine ⟨es,clock,by rw [hρ,hp.w];exact h1,h2,fun i x hx=>?_⟩
  have hi:i < es.size:=(Array.getElem?_eq_some_iff.1 hx).1
  obtain ⟨k1,k2⟩:=hs i Aa
  obtain ⟨⟨q1,q2⟩,q3,q4⟩:=h3 i x hx
  exact ⟨⟨by rw [Cb k1];exact q1,Mb hp k1 q2⟩,by rw [Cb k2];exact q3,Mb hp k2 q4⟩
 all_goals
  have hsol:=Cb hs
  have hsz:=Do hs
  have hu:u.solid=true:=by
   cases u
   case mp=>simp [Az] at hs
   all_goals exact h.1
  obtain ⟨cells,el,h1,h2,h3⟩:=(BZ hu).1 h
  refine (BZ (by rw [hsol];exact hu)).2 ⟨cells,el,by rw [hρ,hp.w];exact h1,by rw [hsz];exact h2,?_⟩
  rw [hsz]
  exact CW hp hs h3
theorem getElem?_nodup {m:List Nat} (hm:m.Nodup) {i j a:Nat} (hi:m[i]?=some a) (hj:m[j]?=some a):i=j:=by
 obtain ⟨h1,h2⟩:=List.getElem?_eq_some_iff.1 hi
 obtain ⟨h3,h4⟩:=List.getElem?_eq_some_iff.1 hj
 have e1:=hm.idxOf_getElem i h1
 have e2:=hm.idxOf_getElem j h3
 rw [h2] at e1
 rw [h4] at e2
 exact e1.symm.trans e2
theorem Inv.sim {c c':Ctx} {e:Env} {H:Hp} (hI:Inv M c e H) {m z:List Nat} (hm:m.Nodup) (hz:∀ i ∈ z,i ∉ m) {H':Hp} (hH:Br H m z H')
 (hc:(c'=c∧∀ j,j < c.k→m[j]?=some j) ∨ (c'=⟨e.sim H m z,fun b=>∃ id,Af H' id=true∧(e.sim H m z).ρ id=b,m.length⟩∧∀ i ∈ m,Af H i=true)):Inv M c' (e.sim H m z) H':=by
 have hp:=Pull.of hI m z
 have hblk:∀ j,Af H' j=true→(e.sim H m z).D j∧D8 (e.sim H m z) j (hget H' j)∧¬ (e.sim H m z).im ((e.sim H m z).ρ j)∧(c.O ((e.sim H m z).ρ j) ∨ c.e0.w.heap.size≤(e.sim H m z).ρ j):=by
  intro j hj
  obtain ⟨i,h1,h2,h3⟩:=Cw hH j hj
  obtain ⟨k1,k2,k3,k4⟩:=hI.blk i h2
  have hρ:(e.sim H m z).ρ j=e.ρ i:=by simp [Env.sim,h1]
  refine ⟨⟨i,h1,k1⟩,KJ hp hρ h3 k2,?_,?_⟩
  ·rw [hρ]
   rintro (h | ⟨i',hf,he⟩)
   ·exact k3 h
   ·obtain ⟨f1,f2,_⟩:=Es hf
    have:=hI.inj i i' h2 f2 he
    subst this
    exact hz _ f1 (List.mem_of_getElem? h1)
  ·rw [hρ];exact k4
 have hinj:∀ i j,Af H' i=true→Af H' j=true→(e.sim H m z).ρ i=(e.sim H m z).ρ j→i=j:=by
  intro i j hi hj hij
  obtain ⟨i',h1,h2,_⟩:=Cw hH i hi
  obtain ⟨j',h3,h4,_⟩:=Cw hH j hj
  simp only [Env.sim,h1,h3] at hij
  have:=hI.inj i' j' h2 h4 hij
  subst this
  exact getElem?_nodup hm h1 h3
 have himo:∀ b,(e.sim H m z).im b→c.e0.im b ∨ c.O b ∨ c.e0.w.heap.size≤b:=by
  rintro b (h | ⟨i,hf,rfl⟩)
  ·exact hI.imo b h
  ·exact .inr (hI.blk i (Es hf).2.1).2.2.2
 have himb:∀ b,(e.sim H m z).im b→∃ cells el fz,(e.sim H m z).w.heap[b]?=some (.cells cells el fz):=by
  rintro b (h | ⟨i,hf,rfl⟩)
  ·exact hI.imb b h
  ·obtain ⟨_,cells,el,h1,_⟩:=hp.fz i hf
   exact ⟨cells,el,_,h1⟩
 have hrb:∀ id,(e.sim H m z).D id→(e.sim H m z).ρ id < (e.sim H m z).w.heap.size:=by
  rintro id ⟨i,h1,h2⟩
  simp only [Env.sim,h1]
  exact hI.rb i h2
 have hgs:GS M (e.sim H m z):=⟨fun g hg =>
  CW hp (show Az H m z (.imm (Sa g)) (.imm (Sa g)) from Qw H m z g) (hI.gs.1 g hg),fun p hp'=>⟨.inl (hI.gs.2 p hp').1,(hI.gs.2 p hp').2⟩⟩
 rcases hc with ⟨rfl,hlow⟩ | ⟨rfl,hall⟩
 ·refine ⟨hI.ev,hblk,hinj,himo,himb,hrb,fun b hb=>.inl (hI.keep b hb),fun id hid=>?_,hgs,hI.φ,hI.τ⟩
  obtain ⟨h1,h2⟩:=hI.low id hid
  exact ⟨⟨id,hlow id hid,h1⟩,by simp only [Env.sim,hlow id hid];exact h2⟩
 ·refine ⟨Ev.refl _ _,fun j hj=>⟨(hblk j hj).1,(hblk j hj).2.1,(hblk j hj).2.2.1,.inl ⟨j,hj,rfl⟩⟩,hinj,fun b hb=>.inl hb,himb,hrb,fun b hb=>hb,fun id hid=>⟨?_,rfl⟩,hgs,hI.φ,hI.τ⟩
  have hid':id < m.length:=hid
  exact ⟨m[id],List.getElem?_eq_getElem hid',(hI.blk _ (hall _ (List.getElem_mem hid'))).1⟩
theorem Ao.sim {c:Ctx} {A:List V} {H:Hp} {N:Nat} (m z:List Nat) {A':List V} {H':Hp} {N':Nat} (hm:m.Nodup) (hz:∀ i ∈ z,i ∉ m) (hN:m.length≤N') (hk:c.k≤N') (hlow:∀ j,j < c.k→m[j]?=some j)
 (hA:Bd H m z A' A) (hH:Br H m z H'):Ao M c A H N A' H' N':=by
 rintro a w ⟨e,rfl,hI,hF,hD,hk',hdef⟩
 refine ⟨e.sim H m z,rfl,hI.sim hm hz hH (.inl ⟨rfl,hlow⟩),⟨hF.len.trans (Gf hA).symm,fun t=>Lh (Pull.of hI m z) (Gc hA t) (hF.val t)⟩,?_,hk,hdef⟩
 rintro id hid ⟨i,h1,_⟩
 have:=(List.getElem?_eq_some_iff.1 h1).1
 omega
def Adh:V:=.mp 0 (fun _=>.junk) (fun _=>.junk)
def V.ren (m:List Nat):V→V
 | .ptr j p=>(match m[j]? with | some i=>.ptr i p | none=>Adh)
 | .map j=>(match m[j]? with | some i=>.map i | none=>Adh)
 | .sl j p o n sz=>(match m[j]? with | some i=>.sl i p o n sz | none=>Adh)
 | .imm v=>.imm (v.ren m)
 | .lst sz n f=>.lst sz n (fun i=>(f i).ren m)
 | .fn f c=>.fn f (c.ren m)
 | .ifc t v=>.ifc t (v.ren m)
 | .st n fs=>.st n (fs.ren m)
 | .ar sz n f=>.ar sz n (fun i=>(f i).ren m)
 | .fcons o v r=>.fcons o (v.ren m) (r.ren m)
 | .tup fs=>.tup (fs.ren m)
 | .mp n ks vs=>.mp n (fun i=>(ks i).ren m) (fun i=>(vs i).ren m)
 | v=>v
theorem DS (m:List Nat) (v:V):(v.ren m).size=v.size:=by
 cases v <;> simp only [V.ren] <;> first | rfl | (split <;> rfl)
theorem Q1 (m:List Nat) (v:V):(v.ren m).isAgg=v.isAgg:=by
 cases v <;> simp only [V.ren] <;> first | rfl | (split <;> rfl)
theorem KF (m:List Nat) (v:V):(v.ren m).chain=v.chain:=by
 cases v <;> simp only [V.ren] <;> first | rfl | (split <;> rfl)
theorem YB (m:List Nat) (d:Nat) (v:V):(v.ren m).flo d=v.flo d:=by
 cases v <;> simp only [V.ren] <;> first | rfl | (split <;> rfl)
def AC:V→Prop
 | .imm _=>False
 | .lst ..=>False
 | .fn _ c=>AC c
 | .ifc _ v=>AC v
 | .st _ fs=>AC fs
 | .ar _ n f=>∀ i,i < n→AC (f i)
 | .fcons _ v r=>AC v∧AC r
 | .tup fs=>AC fs
 | .mp n ks vs=>∀ i,i < n→AC (ks i)∧AC (vs i)
 | _=>True
structure Push (L:Prop) (m:List Nat) (e2 e:Env):Prop where
 D:∀ j,e2.D j→∃ i,m[j]?=some i∧e.D i∧e.ρ i=e2.ρ j
 im:¬ L→∀ b,e2.im b→e.im b
 w:e.w=e2.w
 φ:e.φ=e2.φ
 τ:e.τ=e2.τ
theorem Ci {L:Prop} {m:List Nat} {e2 e:Env} (hp:Push L m e2 e):∀ {v:V} {cs:List Value},(L→AC v)→R e2 v cs→R e (v.ren m) cs∧(v.solid=true→(v.ren m).solid=true)
 | .junk,_,_,h=>⟨h,fun h=>h⟩
 | .int _ _,_,_,h=>⟨h,fun h=>h⟩
 | .bool _,_,_,h=>⟨h,fun h=>h⟩
 | .str _,_,_,h=>⟨h,fun h=>h⟩
 | .nilp,_,_,h=>⟨h,fun h=>h⟩
 | .nils,_,_,h=>⟨h,fun h=>h⟩
 | .nilm,_,_,h=>⟨h,fun h=>h⟩
 | .nilf,_,_,h=>⟨h,fun h=>h⟩
 | .nili,_,_,h=>⟨h,fun h=>h⟩
 | .fnil,_,_,h=>⟨h,fun h=>h⟩
 | .ptr j p, cs, _, h => by
   simp only [R] at h
   obtain ⟨i,h1,h2,h3⟩:=hp.D j h.1
   simp only [V.ren,h1,R,h3]
   exact ⟨⟨h2,h.2⟩,fun _=>rfl⟩
 | .map j, cs, _, h => by
   simp only [R] at h
   obtain ⟨i,h1,h2,h3⟩:=hp.D j h.1
   simp only [V.ren,h1,R,h3]
   exact ⟨⟨h2,h.2⟩,fun _=>rfl⟩
 | .sl j p o n sz, cs, _, h => by
   simp only [R] at h
   obtain ⟨i,h1,h2,h3⟩:=hp.D j h.1
   simp only [V.ren,h1,R,h3,hp.w]
   exact ⟨⟨h2,h.2⟩,fun _=>rfl⟩
 | .imm v, cs, hL, h => by
   have hnL:¬ L:=fun hl=>(hL hl:AC (.imm v)).elim
   simp only [R] at h
   obtain ⟨b,o,c,el,fz,h1,h2,h3,h4,h5⟩:=h
   simp only [V.ren,R,DS,hp.w]
   exact ⟨⟨b,o,c,el,fz,h1,hp.im hnL b h2,h3,h4,(Ci hp (fun hl=>(hnL hl).elim) h5).1⟩,fun _=>rfl⟩
 | .lst sz n f, cs, hL, h => by
   have hnL:¬ L:=fun hl=>(hL hl:AC (.lst sz n f)).elim
   simp only [R] at h
   obtain ⟨a,cap,h1,h2,h3⟩:=h
   simp only [V.ren,R,DS,hp.w]
   refine ⟨⟨a,cap,h1,h2,fun h0=>?_⟩,fun _=>rfl⟩
   obtain ⟨b,o,c,el,fz,k1,k2,k3,k4,k5⟩:=h3 h0
   refine ⟨b,o,c,el,fz,k1,hp.im hnL b k2,k3,k4,fun i hi=>?_⟩
   obtain ⟨q1,q2⟩:=Ci hp (fun hl=>(hnL hl).elim) (k5 i hi).2
   exact ⟨⟨q2 (k5 i hi).1.1,(k5 i hi).1.2⟩,q1⟩
 | .fn f c, cs, hL, h => by
   simp only [R] at h
   obtain ⟨xs,h1,h2⟩:=h
   simp only [V.ren,R,hp.φ]
   exact ⟨⟨xs,h1,(Ci (v:=c) hp hL h2).1⟩,fun _=>rfl⟩
 | .ifc t v, cs, hL, h => by
   simp only [R] at h
   obtain ⟨x,h1,h2,h3⟩:=h
   simp only [V.ren,R,hp.τ,Q1]
   refine ⟨⟨x,h1,?_,?_⟩,fun _=>rfl⟩
   ·split at h3
    ·obtain ⟨c,k1,k2⟩:=h3;exact (Ci (v:=v) hp hL k2).2 h2
    ·exact (Ci (v:=v) hp hL h3).2 h2
   ·split at h3
    ·obtain ⟨c,k1,k2⟩:=h3;exact ⟨c,k1,(Ci (v:=v) hp hL k2).1⟩
    ·exact (Ci (v:=v) hp hL h3).1
 | .st n fs, cs, hL, h => by
   simp only [R] at h
   simp only [V.ren,R,KF]
   exact ⟨⟨h.1,h.2.1,(Ci (v:=fs) hp hL h.2.2).1⟩,fun _=>rfl⟩
 | .ar sz n f, cs, hL, h => by
   simp only [R] at h
   simp only [V.ren,R,DS]
   refine ⟨⟨h.1,fun i hi=>?_⟩,fun _=>rfl⟩
   obtain ⟨q1,q2⟩:=Ci hp (fun hl=>(hL hl:∀ i,i < n→AC (f i)) i hi) (h.2 i hi).2
   exact ⟨⟨q2 (h.2 i hi).1.1,(h.2 i hi).1.2⟩,q1⟩
 | .fcons o v r, cs, hL, h => by
   simp only [R] at h
   simp only [V.ren,R,DS,KF,YB]
   exact ⟨⟨h.1,h.2.1,h.2.2.1,(Ci hp (fun hl=>(hL hl:AC v∧AC r).1) h.2.2.2.1).1,(Ci hp (fun hl=>(hL hl:AC v∧AC r).2) h.2.2.2.2).1⟩,fun hf=>by simp [V.solid] at hf⟩
 | .tup fs,cs,_,h=>by simp only [R] at h
 | .mp n ks vs,cs,_,h=>by simp only [R] at h
theorem HU {L:Prop} {m:List Nat} {e2 e:Env} (hp:Push L m e2 e) {v:V} {x:Value} (hL:L→AC v) (hs:v.solid=true) (h:RS e2 v x):RS e (v.ren m) x∧(v.ren m).solid=true:=by
 unfold RS at *
 rw [Q1]
 split
 ·rename_i ha;simp only [ha] at h;obtain ⟨c,h1,h2⟩:=h;exact ⟨⟨c,h1,(Ci hp hL h2).1⟩,(Ci hp hL h2).2 hs⟩
 ·rename_i ha;simp only [ha] at h;exact ⟨(Ci hp hL h).1,(Ci hp hL h).2 hs⟩
theorem Qu {L:Prop} {m:List Nat} {e2 e:Env} (hp:Push L m e2 e):∀ {v:V} {xs:Array Value},(L→AC v)→RT e2 v xs→RT e (v.ren m) xs
 | .fcons i v r, xs, hL, h => by
   simp only [RT] at h
   simp only [V.ren,RT]
   obtain ⟨⟨h0,y,h1,h2⟩,h3⟩:=h
   obtain ⟨q1,q2⟩:=HU hp (fun hl=>(hL hl:AC v∧AC r).1) h0 h2
   exact ⟨⟨q2,y,h1,q1⟩,Qu hp (fun hl=>(hL hl:AC v∧AC r).2) h3⟩
 | .ptr j p,_,_,_ | .map j,_,_,_ | .sl j p o n sz,_,_,_=>by simp only [V.ren];split <;> trivial
 | .junk,_,_,_ | .int ..,_,_,_ | .bool _,_,_,_ | .str _,_,_,_ | .nilp,_,_,_ | .imm _,_,_,_ | .nils,_,_,_ | .lst ..,_,_,_ | .nilm,_,_,_ | .nilf,_,_,_ | .fn ..,_,_,_ | .nili,_,_,_ | .ifc ..,_,_,_ | .st ..,_,_,_ | .ar ..,_,_,_ | .fnil,_,_,_ | .tup _,_,_,_ | .mp ..,_,_,_=>trivial
theorem Ql {L:Prop} {m:List Nat} {e2 e:Env} (hp:Push L m e2 e) {v:V} {x:Value} (hL:L→AC v) (h:RV e2 v x):RV e (v.ren m) x:=by
 by_cases hs:v.solid=true
 ·rw [AI hs] at h
  obtain ⟨h1,h2⟩:=HU hp hL hs h
  rw [AI h2];exact h1
 ·cases v <;> simp only [V.solid,not_true_eq_false] at hs
  case junk=>trivial
  case tup fs =>
   obtain ⟨xs,h1,h2⟩:=h
   exact ⟨xs,h1,Qu hp hL h2⟩
  all_goals exact (h:False).elim
theorem Jo {L:Prop} {m:List Nat} {e2 e:Env} (hp:Push L m e2 e) {i j:Nat} (hρ:e.ρ i=e2.ρ j) {v:V} (hL:L→AC v) (h:D8 e2 j v):D8 e i (v.ren m):=by
 by_cases hs:v.solid=true
 ·obtain ⟨cells,el,h1,h2,h3⟩:=(BZ hs).1 h
  obtain ⟨q1,q2⟩:=Ci hp hL h3
  refine (BZ (q2 hs)).2 ⟨cells,el,by rw [hρ,hp.w];exact h1,by rw [DS];exact h2,?_⟩
  rw [DS];exact q1
 ·cases v
  case mp n ks vs =>
   obtain ⟨es,clock,h1,h2,h3⟩:=h
   refine ⟨es,clock,by rw [hρ,hp.w];exact h1,h2,fun i x hx=>?_⟩
   have hi:i < es.size:=(Array.getElem?_eq_some_iff.1 hx).1
   obtain ⟨⟨q1,q2⟩,q3,q4⟩:=h3 i x hx
   obtain ⟨a1,a2⟩:=HU hp (fun hl=>((hL hl:∀ i,i < n→AC (ks i)∧AC (vs i)) i Aa).1) q1 q2
   obtain ⟨b1,b2⟩:=HU hp (fun hl=>((hL hl:∀ i,i < n→AC (ks i)∧AC (vs i)) i Aa).2) q3 q4
   exact ⟨⟨a2,a1⟩,b2,b1⟩
  all_goals exact absurd h.1 hs
end Mv
