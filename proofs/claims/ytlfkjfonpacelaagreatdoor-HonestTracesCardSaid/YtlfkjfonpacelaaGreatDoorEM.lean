/- A part. -/
import Derived.Test.YtlfkjfonpacelaaGreatDoorEL
set_option linter.all false
namespace Mv
open Go
variable {M:Seat}
inductive It where
 | code (c:LC)
 | blk (id:Nat)
 | inv (J:List V→Hp→Nat→Prop)
inductive Jt where
 | code (c:Code)
 | blk (id:Nat)
 | inv (J:List V→Hp→Nat→Prop)
def Ed (M:Seat):List Jt→List It→Prop
 | [],[]=>True
 | .code C :: r,.code c :: r'=>BU M C c=true∧Ed M r r'
 | .blk i :: r,.blk i' :: r'=>i=i'∧Ed M r r'
 | .inv J :: r,.inv J' :: r'=>J=J'∧Ed M r r'
 | _,_=>False
def DH (M:Seat) (c:Ctx) (Q:List V→Hp→Nat→Prop):List Jt→Exit→Act→World→Prop
 | [],.normal,a,w | [],.ret,a,w=>∃ A H N,Ut M c A H N a w∧Q A H N
 | [],_,_,_=>False
 | .code C :: r,.normal,a,w=>C.wp M.P (DH M c Q r) a w
 | .code _ :: r,ex,a,w=>DH M c Q r ex a w
 | .blk id :: r,.exit j,a,w=>if j=id then DH M c Q r .normal a w else DH M c Q r (.exit j) a w
 | .blk _ :: r,ex,a,w=>DH M c Q r ex a w
 | .inv J :: _,.normal,a,w=>∃ A H N,Ut M c A H N a w∧J A H N
 | .inv _ :: r,ex,a,w=>DH M c Q r ex a w
theorem U9 {c:Ctx} {Q:List V→Hp→Nat→Prop} {C:Code} {r:List Jt}:DH M c Q (.code C :: r)=Exit.then (C.wp M.P (DH M c Q r)) (DH M c Q r):=by
 funext ex a w;cases ex <;> rfl
theorem X3 {c:Ctx} {Q:List V→Hp→Nat→Prop} {i:Nat} {r:List Jt}:DH M c Q (.blk i :: r)=Exit.inBlock i (DH M c Q r):=by
 funext ex a w;cases ex <;> rfl
def Cw (id:Nat):List It→Option (List It)
 | []=>none
 | .blk i :: r=>if id=i then some r else Cw id r
 | _ :: r=>Cw id r
def H9 (P:Program) (C:Code) (Q:Exit→Act→World→Prop) (a:Act) (w:World):Prop :=
 ∀ (b:Frame) (k:List Item) (cs:List Frame),∃ e a' w',Q e a' w'∧Arrives P (lone (b.at a (.code C :: .inLoop C :: k)) cs w) b k cs e a' w'
theorem H9.wp {P:Program} {C:Code} {Q:Exit→Act→World→Prop} {a:Act} {w:World} (h:H9 P C Q a w):(Code.loop C).wp P Q a w:=by
 intro b k cs
 obtain ⟨e,a',w',hq,harr⟩:=h b k cs
 exact ⟨e,a',w',hq,.of_steps (.one step_loop) harr⟩
def IK (M:Seat) (x:Ctx) (Q:List V→Hp→Nat→Prop) (c:LC) (k:List It) (A:List V) (H:Hp) (N:Nat):Prop :=
 ∀ a w kr C,Ut M x A H N a w→Ed M kr k→BU M C c=true→H9 M.P C (DH M x Q kr) a w
def AK (M:Seat) (x:Ctx) (Q:List V→Hp→Nat→Prop) (k:List It) (N:Nat) (A:List V) (H:Hp):Prop :=
 ∀ (a:Act) (w:World) (kr:List Jt),Ut M x A H N a w→Ed M kr k→DH M x Q kr .normal a w
def ex (M:Seat) (x:Ctx) (Q:List V→Hp→Nat→Prop):Nat→List It→Nat→List V→Hp→Prop
 | 0,k,N,A,H=>AK M x Q k N A H
 | _ + 1,[],N,A,H=>Q A H N
 | n + 1, .code c :: k, N, A, H =>
   match c with
   | .skip=>ex M x Q n k N A H
   | .reg ops=>Ro M (ex M x Q n k (N + 16 * ops.length)) ops N A H
   | .regd L=>Bi M (ex M x Q n k (N + 32 * L.length)) L.length N (G7 L 0) L 0 A H [(0,H)] []
   | .seq c d=>ex M x Q n (.code c :: .code d :: k) N A H
   | .cond y c d => match y.ev A with
     | .bool t=>(t=true→ex M x Q n (.code c :: k) N A H)∧(t=false→ex M x Q n (.code d :: k) N A H)
     | _=>False
   | .block id c=>ex M x Q n (.code c :: .blk id :: k) N A H
   | .loop c=>IK M x Q c k A H N
   | .exit id => match Cw id k with
     | some k'=>ex M x Q n k' N A H
     | none=>False
   | .ret=>Q A H N
 | n + 1,.blk _ :: k,N,A,H=>ex M x Q n k N A H
 | _ + 1,.inv J :: _,N,A,H=>J A H N
theorem Fu {x:Ctx} {Q:List V→Hp→Nat→Prop} {id:Nat} {a:Act} {w:World}:∀ (kr:List Jt) (k k':List It),Ed M kr k→Cw id k=some k'→(∀ kr',Ed M kr' k'→DH M x Q kr' .normal a w)→DH M x Q kr (.exit id) a w
 | [],[],_,_,h,_=>by simp [Cw] at h
 | .code C :: r, .code c :: r', k', hm, h, hp => by
   simp only [Cw] at h
   exact Fu r r' k' hm.2 h hp
 | .inv J :: r, .inv J' :: r', k', hm, h, hp => by
   simp only [Cw] at h
   exact Fu r r' k' hm.2 h hp
 | .blk i :: r, .blk i' :: r', k', hm, h, hp => by
   obtain ⟨rfl,hm⟩:=hm
   simp only [Cw] at h
   simp only [DH]
   split at h
   ·rename_i hid
    rw [if_pos hid]
    simp only [Option.some.injEq] at h
    subst h
    exact hp r hm
   ·rename_i hid
    rw [if_neg hid]
    exact Fu r r' k' hm h hp
 | [],_ :: _,_,hm,_,_=>by simp [Ed] at hm
 | _ :: _,[],_,hm,_,_=>by simp [Ed] at hm
 | .code _ :: _,.blk _ :: _,_,hm,_,_=>by simp [Ed] at hm
 | .code _ :: _,.inv _ :: _,_,hm,_,_=>by simp [Ed] at hm
 | .blk _ :: _,.code _ :: _,_,hm,_,_=>by simp [Ed] at hm
 | .blk _ :: _,.inv _ :: _,_,hm,_,_=>by simp [Ed] at hm
 | .inv _ :: _,.code _ :: _,_,hm,_,_=>by simp [Ed] at hm
 | .inv _ :: _,.blk _ :: _,_,hm,_,_=>by simp [Ed] at hm
theorem HT {x:Ctx} {Q:List V→Hp→Nat→Prop} {a:Act} {w:World} (h:∃ A H N,Ut M x A H N a w∧Q A H N):∀ kr:List Jt,DH M x Q kr .ret a w
 | []=>h
 | .code _ :: r=>HT h r
 | .blk _ :: r=>HT h r
 | .inv _ :: r=>HT h r
theorem CO {x:Ctx} {Q:List V→Hp→Nat→Prop}:∀ (n:Nat) (k:List It) (N:Nat) (A:List V) (H:Hp),ex M x Q n k N A H→AK M x Q k N A H
 | 0,_,_,_,_,h,a,w,kr,hs,hm=>h a w kr hs hm
 | n + 1, [], N, A, H, h, a, w, kr, hs, hm => by
   cases kr with
   | nil=>exact ⟨A,H,N,hs,h⟩
   | cons j r=>cases j <;> exact hm.elim
 | n + 1, .blk i :: k, N, A, H, h, a, w, kr, hs, hm => by
   cases kr with
   | nil=>exact hm.elim
   | cons j r =>
     cases j <;> try (exact hm.elim)
     simp only [DH]
     exact CO n k N A H h a w r hs hm.2
 | n + 1, .inv J :: k, N, A, H, h, a, w, kr, hs, hm => by
   cases kr with
   | nil=>exact hm.elim
   | cons j r =>
     cases j <;> try (exact hm.elim)
     obtain ⟨rfl,hm⟩:=hm
     exact ⟨A,H,N,hs,h⟩
 | n + 1, .code c :: k, N, A, H, h, a, w, kr, hs, hm => by
   cases kr with
   | nil=>exact hm.elim
   | cons j r =>
     cases j <;> try (exact hm.elim)
     rename_i C
     obtain ⟨hc,hm⟩:=hm
     show C.wp M.P (DH M x Q r) a w
     cases c with
     | skip =>
       cases C <;> simp only [BU,Bool.false_eq_true] at hc
       exact wp_skip (CO n k N A H h a w r hs hm)
     | reg ops =>
       cases C <;> simp only [BU,Bool.false_eq_true] at hc
       rename_i id os draw
       simp only [Bool.and_eq_true,beq_iff_eq] at hc
       obtain ⟨rfl,hc⟩:=hc
       obtain ⟨e,rfl,hI,hA,hD,hk,hdef⟩:=hs
       refine wp_region_list (PL os.toList ops N A H e a hc hI hA hD hk hdef ?_ h)
       intro A' H' N' a' w' hs' hN hK
       subst hN
       exact CO n k _ A' H' hK a' w' r hs' hm
     | regd L =>
       cases C <;> simp only [BU,Bool.false_eq_true] at hc
       rename_i id os draw
       simp only [Bool.and_eq_true,beq_iff_eq] at hc
       obtain ⟨rfl,hc⟩:=hc
       obtain ⟨e,rfl,hI,hA,hD,hk,hdef⟩:=hs
       obtain ⟨hle,hI'⟩:=hI.drew
       refine wp_region_any (Kr hc).mixed ?_
       refine TM hc hI' ⟨hA.len,fun t=>HR hle (hA.val t)⟩ hD hdef (fun j hj=>(Mb L 0 j hj).2) (fun A' H' a' e' q1 q2 q3 q4 q5=>?_) h
       exact CO n k _ A' H' q5 a' e'.w r ⟨e',rfl,q1,q2,q3,by omega,q4⟩ hm
     | seq c d =>
       cases C <;> simp only [BU,Bool.false_eq_true] at hc
       simp only [Bool.and_eq_true] at hc
       refine wp_seq ?_
       rw [← U9]
       exact CO n (.code c :: .code d :: k) N A H h a w (.code _ :: .code _ :: r) hs ⟨hc.1,hc.2,hm⟩
     | cond y c d =>
       cases C <;> simp only [BU,Bool.false_eq_true] at hc
       simp only [Bool.and_eq_true] at hc
       obtain ⟨⟨hx,hc1⟩,hc2⟩:=hc
       have hs':=hs
       obtain ⟨e,rfl,hI,hA,hD,hk,hdef⟩:=hs'
       have hv:=A4 hI.φ hA hx (CJ hI hx)
       simp only [ex] at h
       split at h
       ·rename_i t ht
        rw [ht] at hv
        refine wp_cond_split (Fp hv) (fun htt=>?_) (fun htt=>?_)
        ·exact CO n (.code c :: k) N A H (h.1 htt) a e.w (.code _ :: r) hs ⟨hc1,hm⟩
        ·exact CO n (.code d :: k) N A H (h.2 htt) a e.w (.code _ :: r) hs ⟨hc2,hm⟩
       ·exact h.elim
     | block id c =>
       cases C <;> simp only [BU,Bool.false_eq_true] at hc
       simp only [Bool.and_eq_true,beq_iff_eq] at hc
       obtain ⟨rfl,hc⟩:=hc
       refine wp_block ?_
       rw [← X3]
       exact CO n (.code c :: .blk _ :: k) N A H h a w (.code _ :: .blk _ :: r) hs ⟨hc,rfl,hm⟩
     | loop c =>
       cases C <;> simp only [BU,Bool.false_eq_true] at hc
       exact (h a w r _ hs hm hc).wp
     | exit id =>
       cases C <;> simp only [BU,Bool.false_eq_true] at hc
       simp only [beq_iff_eq] at hc
       subst hc
       simp only [ex] at h
       split at h
       ·rename_i k' hd
        exact wp_exit (Fu r k k' hm hd (fun kr' hm'=>CO n k' N A H h a w kr' hs hm'))
       ·exact h.elim
     | ret =>
       cases C <;> simp only [BU,Bool.false_eq_true] at hc
       exact wp_ret (HT ⟨A,H,N,hs,h⟩ r)
theorem es {x:Ctx} {Q:List V→Hp→Nat→Prop} (n:Nat) {k:List It} {N:Nat} {A:List V} {H:Hp} (h:ex M x Q n k N A H):AK M x Q k N A H:=CO n k N A H h
theorem VR {P:Program} {c:Code} {Q:Exit→Act→World→Prop} {σ:Type} (I:σ→Act→World→Prop) (μ:σ→Nat)
 (round:∀ s a w,I s a w→c.wp P (Exit.then (fun a' w'=>∃ s',I s' a' w'∧μ s' < μ s) Q) a w):∀ (s:σ) (a:Act) (w:World),I s a w→H9 P c Q a w:=by
 have key:∀ n (s:σ) a w,μ s=n→I s a w→∀ (b:Frame) (k:List Item) (cs:List Frame),
  ∃ e a' w',Q e a' w'∧Arrives P (lone (b.at a (.code c :: .inLoop c :: k)) cs w) b k cs e a' w':=by
  intro n
  induction n using Nat.strongRecOn with
  | _ n ih =>
    intro s a w hn hI b k cs
    obtain ⟨e,a₁,w₁,hq,harr⟩:=round s a w hI b (.inLoop c :: k) cs
    cases e with
    | normal =>
      obtain ⟨s',hI₁,hlt⟩:=hq
      obtain ⟨e₂,a₂,w₂,hq₂,harr₂⟩:=ih (μ s') (hn ▸ hlt) s' a₁ w₁ rfl hI₁ b k cs
      exact ⟨e₂,a₂,w₂,hq₂,.of_steps (Steps.trans harr (.one step_inLoop)) harr₂⟩
    | exit id=>exact ⟨_,a₁,w₁,hq,.pass (x:=.inLoop c) rfl (fun _ _=>.inl B1) harr⟩
    | goto l=>exact ⟨_,a₁,w₁,hq,.pass (x:=.inLoop c) rfl (fun _ _=>.inl B1) harr⟩
    | ret=>exact ⟨_,a₁,w₁,hq,.pass (x:=.inLoop c) rfl (fun _ _=>.inl B1) harr⟩
    | panic ch=>exact ⟨_,a₁,w₁,hq,.pass (x:=.inLoop c) rfl (fun _ _=>.inl B1) harr⟩
    | outgrown=>exact ⟨_,a₁,w₁,hq,.pass (x:=.inLoop c) rfl (fun _ _=>.inl B1) harr⟩
 intro s a w h b k cs
 exact key _ s a w rfl h b k cs
def Ak (M:Seat) (x:Ctx) (A:List V) (H:Hp) (N:Nat) (A':List V) (H':Hp) (N':Nat):Prop:=∀ a w,Ut M x A H N a w→Ut M x A' H' N' a w
theorem Ak.refl {x:Ctx} {A:List V} {H:Hp} {N:Nat}:Ak M x A H N A H N:=fun _ _ h=>h
theorem An {x:Ctx} {Q:List V→Hp→Nat→Prop} {c:LC} {k:List It} {A:List V} {H:Hp} {N:Nat} {σ:Type} (I:σ→Prop) (sA:σ→List V) (sH:σ→Hp) (sN:σ→Nat) (μ:σ→Nat) (s0:σ)
 (hI:I s0) (hw:Ak M x A H N (sA s0) (sH s0) (sN s0))
 (round:∀ s,I s→AK M x Q (.code c :: .inv (fun A' H' N'=>∃ s',I s'∧μ s' < μ s∧Ak M x A' H' N' (sA s') (sH s') (sN s')) :: k) (sN s) (sA s) (sH s)) :
 IK M x Q c k A H N:=by
 intro a w kr C hs hm hc
 refine VR (σ:=σ) (fun s a w=>I s∧Ut M x (sA s) (sH s) (sN s) a w) μ ?_ s0 a w ⟨hI,hw a w hs⟩
 rintro s a w ⟨hIs,hss⟩
 have hn:=round s hIs
 have:=hn a w (.code C :: .inv _ :: kr) hss ⟨hc,rfl,hm⟩
 have hp:DH M x Q (.inv (fun A' H' N'=>∃ s',I s'∧μ s' < μ s∧Ak M x A' H' N' (sA s') (sH s') (sN s')) :: kr)=Exit.then (fun a' w'=>∃ A' H' N',Ut M x A' H' N' a' w'∧∃ s',I s'∧μ s' < μ s∧Ak M x A' H' N' (sA s') (sH s') (sN s')) (DH M x Q kr):=by
  funext ex a w;cases ex <;> rfl
 have h2:C.wp M.P (DH M x Q (.inv (fun A' H' N'=>∃ s',I s'∧μ s' < μ s∧Ak M x A' H' N' (sA s') (sH s') (sN s')) :: kr)) a w:=this
 rw [hp] at h2
 refine Code.wp_mono (fun ex a' w' h=>?_) h2
 cases ex <;> try (exact h)
 obtain ⟨A',H',N',hs',s',h1,h3,h4⟩:=h
 exact ⟨s',⟨h1,h4 _ _ hs'⟩,h3⟩
theorem AK.weak {x:Ctx} {Q:List V→Hp→Nat→Prop} {k:List It} {A:List V} {H:Hp} {N:Nat} (A':List V) (H':Hp) (N':Nat) (hw:Ak M x A H N A' H' N') (h:AK M x Q k N' A' H'):AK M x Q k N A H :=
 fun a w kr hs hm=>h a w kr (hw a w hs) hm
theorem Au {x:Ctx} {Q:List V→Hp→Nat→Prop} {c:LC} {k:List It} {A:List V} {H:Hp} {N:Nat}
 (h:AK M x Q (.code c :: .inv (fun A' H' N'=>IK M x Q c k A' H' N') :: k) N A H):IK M x Q c k A H N:=by
 intro a w kr C hs hm hc
 have h1:=h a w (.code C :: .inv _ :: kr) hs ⟨hc,rfl,hm⟩
 have hp:DH M x Q (.inv (fun A' H' N'=>IK M x Q c k A' H' N') :: kr)=Exit.then (fun a' w'=>∃ A' H' N',Ut M x A' H' N' a' w'∧IK M x Q c k A' H' N') (DH M x Q kr):=by
  funext ex a w;cases ex <;> rfl
 have h2:C.wp M.P (DH M x Q (.inv (fun A' H' N'=>IK M x Q c k A' H' N') :: kr)) a w:=h1
 rw [hp] at h2
 intro b kk cs
 obtain ⟨e,a₁,w₁,hq,harr⟩:=h2 b (.inLoop C :: kk) cs
 cases e with
 | normal =>
   obtain ⟨A',H',N',hs',hl⟩:=hq
   obtain ⟨e₂,a₂,w₂,hq₂,harr₂⟩:=hl a₁ w₁ kr C hs' hm hc b kk cs
   exact ⟨e₂,a₂,w₂,hq₂,.of_steps (Steps.trans harr (.one step_inLoop)) harr₂⟩
 | exit id=>exact ⟨_,a₁,w₁,hq,.pass (x:=.inLoop C) rfl (fun _ _=>.inl B1) harr⟩
 | goto l=>exact ⟨_,a₁,w₁,hq,.pass (x:=.inLoop C) rfl (fun _ _=>.inl B1) harr⟩
 | ret=>exact ⟨_,a₁,w₁,hq,.pass (x:=.inLoop C) rfl (fun _ _=>.inl B1) harr⟩
 | panic ch=>exact ⟨_,a₁,w₁,hq,.pass (x:=.inLoop C) rfl (fun _ _=>.inl B1) harr⟩
 | outgrown=>exact ⟨_,a₁,w₁,hq,.pass (x:=.inLoop C) rfl (fun _ _=>.inl B1) harr⟩
def MG (H:Hp) (z:List Nat) (i:Nat):Bool:=z.contains i && Ac H i && (hget H i).solid
def V.isMp:V→Bool
 | .mp ..=>true
 | _=>false
def R9 (H:Hp) (z:List Nat) (i:Nat):Bool:=z.contains i && Ac H i && (hget H i).isMp
def Ub (H:Hp) (z:List Nat) (i:Nat):Bool:=MG H z i || R9 H z i
def Ar (H:Hp) (m z:List Nat):V→V→Prop
 | .junk,a=>a = .junk
 | .int k n,a=>a = .int k n
 | .bool b,a=>a = .bool b
 | .str s,a=>a = .str s
 | .nilp,a=>a = .nilp
 | .nils,a=>a = .nils
 | .nilm,a=>a = .nilm
 | .nilf,a=>a = .nilf
 | .nili,a=>a = .nili
 | .fnil,a=>a = .fnil
 | .ptr j p,a=>(match a with | .ptr i q=>m[j]?=some i∧Aq q=Aq p | _=>False)
 | .map j,a=>(match a with | .map i=>m[j]?=some i | _=>False)
 | .sl j p o n sz,a=>(match a with | .sl i q o' n' sz'=>m[j]?=some i∧(Aq q=Aq p∧o'=o∧n'=n∧sz'=sz) | _=>False)
 | .imm v, a => (match a with
   | .imm u=>Ar H m z v u
   | .ptr i q=>MG H z i=true∧(hget H i).ok q∧Ar H m z v ((hget H i).get q)
   | _=>False)
 | .lst sz n f, a => (match a with
   | .lst sz' n' g=>(sz'=sz∧n'=n)∧∀ i,i < n→Ar H m z (f i) (g i)
   | .sl i q o n' sz' => (sz' = sz ∧ n' = n) ∧ MG H z i = true ∧ (hget H i).ok q ∧ (match (hget H i).get q with
     | .ar s L g=>s=sz∧o + n≤L∧∀ i,i < n→Ar H m z (f i) (g (o + i))
     | _=>False)
   | .nils=>n=0
   | _=>False)
 | .fn f c,a=>(match a with | .fn f' c'=>f'=f∧Ar H m z c c' | _=>False)
 | .ifc t v,a=>(match a with | .ifc t' v'=>t'=t∧Ar H m z v v' | _=>False)
 | .st n fs,a=>(match a with | .st n' fs'=>n'=n∧Ar H m z fs fs' | _=>False)
 | .ar sz n f,a=>(match a with | .ar sz' n' g=>(sz'=sz∧n'=n)∧∀ i,i < n→Ar H m z (f i) (g i) | _=>False)
 | .fcons o v r,a=>(match a with | .fcons o' v' r'=>o'=o∧Ar H m z v v'∧Ar H m z r r' | _=>False)
 | .tup fs,a=>(match a with | .tup fs'=>Ar H m z fs fs' | _=>False)
 | .mp n ks vs,a=>(match a with | .mp n' ks' vs'=>n'=n∧∀ i,i < n→Ar H m z (ks i) (ks' i)∧Ar H m z (vs i) (vs' i) | _=>False)
 | .fm n ks vs, a => (match a with
   | .fm n' ks' vs'=>n'=n∧∀ i,i < n→Ar H m z (ks i) (ks' i)∧Ar H m z (vs i) (vs' i)
   | .map i=>R9 H z i=true∧(match hget H i with | .mp n' ks' vs'=>n'=n∧∀ i,i < n→Ar H m z (ks i) (ks' i)∧Ar H m z (vs i) (vs' i) | _=>False)
   | _=>False)
theorem DZ {H:Hp} {m z:List Nat} {v u:V} (h:Ar H m z v u):v.size=u.size:=by
 cases v <;> cases u <;> simp_all [Ar,V.size]
theorem Gc {H:Hp} {m z:List Nat} {v u:V} (h:Ar H m z v u):v.isAgg=u.isAgg:=by
 cases v <;> cases u <;> simp_all [Ar,V.isAgg]
theorem BK {H:Hp} {m z:List Nat} {v u:V} (h:Ar H m z v u):v.solid=u.solid:=by
 cases v <;> cases u <;> simp_all [Ar,V.solid]
theorem LI {H:Hp} {m z:List Nat} {v u:V} (h:Ar H m z v u):v.chain=u.chain:=by
 cases v <;> cases u <;> simp_all [Ar,V.chain]
theorem Zn {H:Hp} {m z:List Nat} {v u:V} (d:Nat) (h:Ar H m z v u):v.flo d=u.flo d:=by
 cases v <;> cases u <;> simp_all [Ar,V.flo]
structure Pull (H:Hp) (m z:List Nat) (e e2:Env):Prop where
 D:∀ j i,m[j]?=some i→e.D i→e2.D j∧e2.ρ j=e.ρ i
 im:∀ b,e.im b→e2.im b
 fz:∀ i,MG H z i=true→e2.im (e.ρ i)∧∃ cells el,e.w.heap[e.ρ i]?=some (.cells cells el (0,0))∧(hget H i).size≤cells.size∧R e (hget H i) (cells.toList.take (hget H i).size)
 fm:∀ i,R9 H z i=true→e2.im (e.ρ i)∧DE e i (hget H i)
 w:e2.w=e.w
 φ:e2.φ=e.φ
 τ:e2.τ=e.τ
theorem C6 {H:Hp} {m z:List Nat} {e e2:Env} (hp:Pull H m z e e2):∀ {v u:V} {cs:List Value},Ar H m z v u→R e u cs→R e2 v cs
 | .junk,u,cs,hs,h=>by simp only [Ar] at hs;subst hs;exact h
 | .int _ _,u,cs,hs,h=>by simp only [Ar] at hs;subst hs;exact h
 | .bool _,u,cs,hs,h=>by simp only [Ar] at hs;subst hs;exact h
 | .str _,u,cs,hs,h=>by simp only [Ar] at hs;subst hs;exact h
 | .nilp,u,cs,hs,h=>by simp only [Ar] at hs;subst hs;exact h
 | .nils,u,cs,hs,h=>by simp only [Ar] at hs;subst hs;exact h
 | .nilm,u,cs,hs,h=>by simp only [Ar] at hs;subst hs;exact h
 | .nilf,u,cs,hs,h=>by simp only [Ar] at hs;subst hs;exact h
 | .nili,u,cs,hs,h=>by simp only [Ar] at hs;subst hs;exact h
 | .fnil,u,cs,hs,h=>trivial
 | .ptr j p, u, cs, hs, h => by
   cases u <;> simp only [Ar] at hs
   obtain ⟨h1,h2⟩:=hs
   simp only [R] at h ⊢
   obtain ⟨d1,d2⟩:=hp.D _ _ h1 h.1
   rw [d2,← h2];exact ⟨d1,h.2⟩
 | .map j, u, cs, hs, h => by
   cases u <;> simp only [Ar] at hs
   simp only [R] at h ⊢
   obtain ⟨d1,d2⟩:=hp.D _ _ hs h.1
   rw [d2];exact ⟨d1,h.2⟩
 | .sl j p o n sz, u, cs, hs, h => by
   cases u <;> simp only [Ar] at hs
   obtain ⟨h1,h2,rfl,rfl,rfl⟩:=hs
   simp only [R] at h ⊢
   obtain ⟨d1,d2⟩:=hp.D _ _ h1 h.1
   rw [d2,← h2,hp.w];exact ⟨d1,h.2⟩
 | .imm v, u, cs, hs, h => by
   cases u <;> simp only [Ar] at hs
   case imm u =>
    simp only [R] at h ⊢
    obtain ⟨b,o,c,el,fz,h1,h2,h3,h4,h5⟩:=h
    rw [DZ hs,hp.w]
    exact ⟨b,o,c,el,fz,h1,hp.im b h2,h3,h4,C6 hp hs h5⟩
   case ptr i q =>
    simp only [R] at h ⊢
    obtain ⟨h0,h1,h2⟩:=hs
    obtain ⟨k1,cells,el,hc,hsz,hR⟩:=hp.fz i h0
    have hlen:(cells.toList.take (hget H i).size).length=(hget H i).size:=EP
    obtain ⟨g1,g2⟩:=Em hR hlen h1
    rw [hlen] at g1
    rw [DZ h2,hp.w]
    refine ⟨_,_,cells,el,_,h.2,k1,hc,by omega,C6 hp h2 ?_⟩
    rw [List.drop_take,List.take_take,Nat.min_eq_left Aa] at g2
    exact g2
 | .lst sz n f, u, cs, hs, h => by
   cases u <;> simp only [Ar] at hs
   case lst sz' n' g =>
    obtain ⟨⟨rfl,rfl⟩,hs⟩:=hs
    simp only [R] at h ⊢
    obtain ⟨a,cap,h1,h2,h3⟩:=h
    refine ⟨a,cap,h1,h2,fun h0=>?_⟩
    obtain ⟨b,o,c,el,fz,k1,k2,k3,k4,k5⟩:=h3 h0
    refine ⟨b,o,c,el,fz,k1,hp.im b k2,by rw [hp.w];exact k3,k4,fun i hi=>⟨?_,C6 hp (hs i hi) (k5 i hi).2⟩⟩
    rw [BK (hs i hi),DZ (hs i hi)]
    exact (k5 i hi).1
   case nils =>
    subst hs
    simp only [R] at h ⊢
    exact ⟨none,0,h,Nat.le_refl _,fun h=>absurd h (Nat.lt_irrefl _)⟩
   case sl i q o n' sz' =>
    obtain ⟨⟨rfl,rfl⟩,h0,h1,hs⟩:=hs
    split at hs
    case h_2=>exact hs.elim
    rename_i s L g hget
    obtain ⟨rfl,hL,hs⟩:=hs
    simp only [R] at h ⊢
    obtain ⟨_,b,cap,hcs,hcap,hle,_⟩:=h
    refine ⟨b,cap,hcs,hle,fun hn=>?_⟩
    have hb:=hcap.resolve_left Aa
    obtain ⟨k1,cells,el,hc,hsz,hR⟩:=hp.fz i h0
    have hlen:(cells.toList.take (Mv.hget H i).size).length=(Mv.hget H i).size:=EP
    obtain ⟨g1,g2⟩:=Em hR hlen h1
    rw [hlen] at g1
    rw [hget] at g1 g2
    rw [List.drop_take,List.take_take,Nat.min_eq_left Aa] at g2
    have g1:Aq q + L * s≤(Mv.hget H i).size:=g1
    have g2:R e (.ar s L g) ((cells.toList.drop (Aq q)).take (L * s)):=g2
    simp only [R] at g2
    have hmul:∀ j,j≤L→j * s≤L * s:=fun j hj=>Nat.mul_le_mul_right _ hj
    refine ⟨_,_,cells,el,_,hb,k1,by rw [hp.w];exact hc,?_,fun j hj=>⟨?_,?_⟩⟩
    ·have:=hmul (o + n') hL
     rw [Nat.add_mul] at this
     omega
    ·have:=(g2.2 (o + j) Aa).1
     rw [BK (hs j hj),DZ (hs j hj)]
     exact this
    ·have g3:=(g2.2 (o + j) Aa).2
     refine C6 hp (hs j hj) ?_
     have h3:=hmul (o + j + 1) Aa
     rw [Nat.add_mul,Nat.one_mul] at h3
     rw [List.drop_take,List.take_take,Nat.min_eq_left Aa,List.drop_drop] at g3
     have e1:Aq q + o * s + j * s=Aq q + (o + j) * s:=by rw [Nat.add_mul];omega
     rw [e1];exact g3
 | .fn f c, u, cs, hs, h => by
   cases u <;> simp only [Ar] at hs
   obtain ⟨rfl,hs⟩:=hs
   simp only [R] at h ⊢
   obtain ⟨xs,h1,h2⟩:=h
   rw [hp.φ]
   exact ⟨xs,h1,C6 hp hs h2⟩
 | .ifc t v, u, cs, hs, h => by
   cases u <;> simp only [Ar] at hs
   obtain ⟨rfl,hs⟩:=hs
   simp only [R] at h ⊢
   obtain ⟨x,h1,h2,h3⟩:=h
   rw [hp.τ,BK hs,Gc hs]
   refine ⟨x,h1,h2,?_⟩
   split at h3
   ·obtain ⟨c,k1,k2⟩:=h3;exact ⟨c,k1,C6 hp hs k2⟩
   ·exact C6 hp hs h3
 | .st n fs, u, cs, hs, h => by
   cases u <;> simp only [Ar] at hs
   obtain ⟨rfl,hs⟩:=hs
   simp only [R] at h ⊢
   rw [LI hs]
   exact ⟨h.1,h.2.1,C6 hp hs h.2.2⟩
 | .ar sz n f, u, cs, hs, h => by
   cases u <;> simp only [Ar] at hs
   obtain ⟨⟨rfl,rfl⟩,hs⟩:=hs
   simp only [R] at h ⊢
   refine ⟨h.1,fun i hi=>⟨?_,C6 hp (hs i hi) (h.2 i hi).2⟩⟩
   rw [BK (hs i hi),DZ (hs i hi)]
   exact (h.2 i hi).1
 | .fcons o v r, u, cs, hs, h => by
   cases u <;> simp only [Ar] at hs
   obtain ⟨rfl,hv,hr⟩:=hs
   simp only [R] at h ⊢
   rw [LI hr,Zn _ hr,DZ hv]
   exact ⟨h.1,h.2.1,h.2.2.1,C6 hp hv h.2.2.2.1,C6 hp hr h.2.2.2.2⟩
 | .tup fs, u, cs, hs, h => by
   cases u <;> simp only [Ar] at hs
   simp only [R] at h
 | .mp n ks vs, u, cs, hs, h => by
   cases u <;> simp only [Ar] at hs
   simp only [R] at h
 | .fm n ks vs, u, cs, hs, h => by
   cases u <;> simp only [Ar] at hs
   case fm n' ks' vs' =>
    obtain ⟨rfl,hs⟩:=hs
    simp only [R] at h ⊢
    obtain ⟨b,es,ck,hc,hi,hb,hn,hx⟩:=h
    refine ⟨b,es,ck,hc,hp.im b hi,by rw [hp.w];exact hb,hn,fun i x hix=>?_⟩
    have hi':i < es.size:=(Array.getElem?_eq_some_iff.1 hix).1
    obtain ⟨s1,s2⟩:=hs i Aa
    obtain ⟨⟨q1,q2⟩,q3,q4⟩:=hx i x hix
    refine ⟨⟨by rw [BK s1];exact q1,?_⟩,by rw [BK s2];exact q3,?_⟩
    ·rw [Gc s1]
     split
     ·rename_i ha;simp only [ha] at q2;obtain ⟨c,k1,k2⟩:=q2;exact ⟨c,k1,C6 hp s1 k2⟩
     ·rename_i ha;simp only [ha] at q2;exact C6 hp s1 q2
    ·rw [Gc s2]
     split
     ·rename_i ha;simp only [ha] at q4;obtain ⟨c,k1,k2⟩:=q4;exact ⟨c,k1,C6 hp s2 k2⟩
     ·rename_i ha;simp only [ha] at q4;exact C6 hp s2 q4
   case map j =>
    obtain ⟨h0,hs⟩:=hs
    obtain ⟨k1,k2⟩:=hp.fm j h0
    split at hs
    case h_2=>exact hs.elim
    rename_i n' ks' vs' hg
    obtain ⟨rfl,hs⟩:=hs
    rw [hg] at k2
    obtain ⟨es,ck,hb,hn,hx⟩:=k2
    simp only [R] at h ⊢
    refine ⟨e.ρ j,es,ck,h.2,k1,by rw [hp.w];exact hb,hn,fun i x hix=>?_⟩
    have hi':i < es.size:=(Array.getElem?_eq_some_iff.1 hix).1
    obtain ⟨s1,s2⟩:=hs i Aa
    obtain ⟨⟨q1,q2⟩,q3,q4⟩:=hx i x hix
    unfold RS at q2 q4
    refine ⟨⟨by rw [BK s1];exact q1,?_⟩,by rw [BK s2];exact q3,?_⟩
    ·rw [Gc s1]
     split
     ·rename_i ha;simp only [ha] at q2;obtain ⟨c,k1,k2⟩:=q2;exact ⟨c,k1,C6 hp s1 k2⟩
     ·rename_i ha;simp only [ha] at q2;exact C6 hp s1 q2
    ·rw [Gc s2]
     split
     ·rename_i ha;simp only [ha] at q4;obtain ⟨c,k1,k2⟩:=q4;exact ⟨c,k1,C6 hp s2 k2⟩
     ·rename_i ha;simp only [ha] at q4;exact C6 hp s2 q4
theorem Nz {H:Hp} {m z:List Nat} {e e2:Env} (hp:Pull H m z e e2) {v u:V} {x:Value} (hs:Ar H m z v u) (h:RS e u x):RS e2 v x:=by
 unfold RS at *
 rw [Gc hs]
 split
 ·rename_i ha;simp only [ha] at h;obtain ⟨c,h1,h2⟩:=h;exact ⟨c,h1,C6 hp hs h2⟩
 ·rename_i ha;simp only [ha] at h;exact C6 hp hs h
theorem XC {H:Hp} {m z:List Nat} {e e2:Env} (hp:Pull H m z e e2):∀ {v u:V} {xs:Array Value},Ar H m z v u→RT e u xs→RT e2 v xs
 | .fcons i v r, u, xs, hs, h => by
   cases u <;> simp only [Ar] at hs
   obtain ⟨rfl,hv,hr⟩:=hs
   simp only [RT] at h ⊢
   obtain ⟨⟨h0,y,h1,h2⟩,h3⟩:=h
   rw [BK hv]
   exact ⟨⟨h0,y,h1,Nz hp hv h2⟩,XC hp hr h3⟩
 | .junk,_,_,_,_ | .int ..,_,_,_,_ | .bool _,_,_,_,_ | .str _,_,_,_,_ | .nilp,_,_,_,_ | .ptr ..,_,_,_,_ | .imm _,_,_,_,_ | .nils,_,_,_,_ | .sl ..,_,_,_,_ | .lst ..,_,_,_,_ | .nilm,_,_,_,_ | .map _,_,_,_,_ | .nilf,_,_,_,_ | .fn ..,_,_,_,_ | .nili,_,_,_,_ | .ifc ..,_,_,_,_ | .st ..,_,_,_,_ | .ar ..,_,_,_,_ | .fnil,_,_,_,_ | .tup _,_,_,_,_ | .mp ..,_,_,_,_ | .fm ..,_,_,_,_=>trivial
def Bk (H:Hp) (m z:List Nat) (v u:V):Prop :=
 match v with
 | .junk=>True
 | v=>Ar H m z v u
theorem NO {H:Hp} {m z:List Nat} {e e2:Env} (hp:Pull H m z e e2) {v u:V} {x:Value} (hs:Bk H m z v u) (h:RV e u x):RV e2 v x:=by
 cases v
 case junk=>trivial
 case tup fs =>
  cases u <;> simp only [Bk,Ar] at hs
  obtain ⟨xs,h1,h2⟩:=h
  exact ⟨xs,h1,XC hp hs h2⟩
 all_goals
  simp only [Bk] at hs
  have hsol:=BK hs
  cases u <;> first
   | (simp only [Ar,reduceCtorEq] at hs;done)
   | (simp only [Ar] at hs;done)
   | (simp only [RV] at h;done)
   | (rw [AR rfl] at h;rw [AR rfl];exact Nz hp hs h)
   | skip
end Mv
