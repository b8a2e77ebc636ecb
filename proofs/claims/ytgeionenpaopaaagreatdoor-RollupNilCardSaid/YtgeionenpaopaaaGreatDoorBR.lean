/- A part. -/
import Derived.Test.YtgeionenpaopaaaGreatDoorBQ
set_option linter.all false
set_option maxRecDepth 20000
set_option maxHeartbeats 16000000
namespace Mv
open Go
def Aj6:LC:=(sr [A1 2 (.mv (.c .nils))] (.seq (sr [mt 3 0,A1 4 (.eq false true (.nils 0) (.t 3) (.c .nils))] (.cond (.t 4) (sr [A1 2 (.mv (.c .nils))] .ret) .skip)) (sr [A1 5 (.bsl 1 0 zI []),mt 6 0,
  aP 7 1 8 5 6,mt 2 7] .ret)))
def Xb:LF:=⟨Aj6,1,0,8,[.tmp 2]⟩
structure OkNe (M:Seat):Prop where
 cd:OkCd M
 k307:Ar M 307 Xz=true
 k409:Ar M 409 Xb=true
 k410:Ar M 410 Tx=true
 k460:Ar M 460 T9=true
def ClC (M:Seat) (f:Ex→List Nat→List Nat) (x:Ex) (c:Nat):Prop:=∀ l:List Nat,l.length + c < 1000000 →
 As M 460 [AE x,Ee 0 l.length] (D8 l.length 0 (BO l) []) 1 (Q3 (Ee 1 (f x l).length) (D8 (f x l).length 1 (BO (f x l)) []) 2)
theorem BI {M:Seat} (ok:OkNe M) (P:List Fu) (i:Nat) (hP:P.length < 1000):∀ (k:Nat) (x:Ex) (c:Nat),RE P i k x c→ClC M (Hg k) x c
 | 0,_,_,h=>by cases h
 | k + 1, .mk op n as, _, .mk _ _ _ _ c hn hl ha => by
   intro l hlen;have hE:∀ j,j < as.length→ClC M (Hg k) (as.getD j Ch) (c j):=fun j hj=>by
    rw [List.getD_eq_getElem?_getD,List.getElem?_eq_getElem hj];exact BI ok P i hP k as[j] (c j) (ha j hj)
   have es:((List.range as.length).map c).sum=Be c as.length:=rfl;rw [es] at hlen;have hq:∀ j,j≤as.length→(MO (Hg k) as (KZ op n l) j).length≤l.length + 1 + Be c j:=fun j=>by
    induction j with
    | zero=>intro _;(show (KZ op n l).length≤_;have:Be c 0=0:=rfl;unfold KZ;split <;> (try rw [Ew]) <;> omega)
    | succ j ih =>
      intro h;have e:=C8 c j;have hj:j < as.length:=h;have g:=((FV P i k as[j] (c j) (ha j hj)).2 (MO (Hg k) as (KZ op n l) j)).len;rw [show as[j]=as.getD j Ch by rw [List.getD_eq_getElem?_getD,List.getElem?_eq_getElem hj];rfl] at g;have:=ih Aa;simp only [MO];omega
   rw [Ij];simp only [Hg];refine Ac ok.k460 rfl fun x hx=>?_;by_cases h29:op=29
   case' pos =>
    have hlt:n.toNat < P.length:=by
     cases hn with
     | call n as h1 h2 h3=>exact h2
     | ar op n as h1 h2 h3=>omega
     | con n=>exact absurd h29 Ab
     | loc n h1 h2=>exact absurd h29 Ab
     | load n a=>exact absurd h29 Ab
     | hash n a b=>exact absurd h29 Ab
     | pre n a b=>exact absurd h29 Ab
    have hni:n.toInt=((n.toNat:Nat):Int):=Adp;have ho:KZ op n l=l ++ [n.toNat]:=if_pos h29;refine eX ?_;simp only [T9,Ae1,eq_true h29,hni,AU,AY,AZ,CP,LH,Ai,Xa,Cp,CM,LZ,seval];refine ⟨by omega,?_⟩;refine Au (σ:=Nat) (fun j=>j≤as.length) (fun j=>fr 28 [(1,Ee 1 (MO (Hg k) as (KZ op n l) j).length),(17,AF as),(18,.int .i64 as.length),(19,.int .i64 j)])
     (fun j=>D8 (MO (Hg k) as (KZ op n l) j).length 1 (BO (MO (Hg k) as (KZ op n l) j)) []) (fun _=>2) (fun j=>as.length - j) 0 (Nat.zero_le _) ?_ ?_
    ·simp only [MO,ho,Ci];refine Av.frO [0,161] [] [1] hx Bg Ab (by simp only [AA,seval]) ?_ ?_
     ·simp only [Cy,Int.natCast_zero,LH,Ai,Ci,LY,seval]
     ·simp only [Ae,LH,Ai,Ci,LY,seval]
   case' neg =>
    have ho:KZ op n l=l:=if_neg h29;refine eX ?_;simp only [T9,Ae1,eq_false h29,AU,AY,AZ,CP,LH,Ai,Xa,Cp,CM,LZ,seval];refine Au (σ:=Nat) (fun j=>j≤as.length) (fun j=>fr 28 [(1,Ee 1 (MO (Hg k) as (KZ op n l) j).length),(17,AF as),(18,.int .i64 as.length),(19,.int .i64 j)])
     (fun j=>D8 (MO (Hg k) as (KZ op n l) j).length 1 (BO (MO (Hg k) as (KZ op n l) j)) []) (fun _=>2) (fun j=>as.length - j) 0 (Nat.zero_le _) ?_ ?_
    ·simp only [MO,ho];refine Av.frO [0,0] [] [1] hx Bg Ab (by simp only [AA,seval]) ?_ ?_
     ·simp only [Cy,Int.natCast_zero,LH,Ai,Ci,LY,seval]
     ·simp only [Ae,LH,Ai,Ci,LY,seval]
   all_goals
    clear ho;intro j hj;refine eX ?_;by_cases hin:j=as.length
    ·subst hin;have d0:((as.length:Int) < (as.length:Int))=False:=eq_false Aa;generalize MO (Hg k) as (KZ op n l) as.length=m at *
     simp only [d0,LZ,seval];refine Ay.mkO hx [0,1] [] [1] _ _ _ (by simp only [Ae,AA,seval]) Ab (by (simp only [Dz,Ae,LH,Ai,seval])) (by ((try simp only [DK,Ae,LH,Ai,seval]);first | done | exact True.intro | (intros;rfl))) (by ((try simp only [Ae,LH,Ai,LY,seval]);first | done | exact True.intro | (intros;rfl))) ⟨rfl,rfl,rfl⟩
    ·have d0:((j:Int) < (as.length:Int))=True:=eq_true Aa;have hlt:j < as.length:=Aa;have hne:as ≠ []:=NK;have hy:=FY as j hlt;have w2:IntKind.i64.wrap ((j:Int) + 1)=((j + 1:Nat):Int):=B7;have hsl:=DF c hlt;have hC:=hE j hlt (MO (Hg k) as (KZ op n l) j) (by have:=hq j hj;omega);have hn1:MO (Hg k) as (KZ op n l) (j + 1)=Hg k (as.getD j Ch) (MO (Hg k) as (KZ op n l) j):=rfl;rw [← hn1] at hC;generalize as.getD j Ch=y at *
     simp only [d0,Bs as hne,hy,Al,An,Am,w2,LZ,seval];repeat refine sd ?_
     refine Ah [1] [1] [0] (hC) (by simp only [B6,Ae,AA,seval]) Ab (by ((try simp only [B6,Ae,LH,Ai,LY,seval]);first | done | exact True.intro | rfl)) (by ((try simp only [B6,Ae,LH,Ai,LY,seval]);first | done | exact True.intro | rfl)) ?_;simp only [Ad,Ae,LH,Ai,AW,w2,seval];refine ⟨j + 1,by omega,by omega,?_⟩;refine Av.frO [0,114] [] [1] hx Bg Ab (by simp only [AA,seval]) ?_ ?_
     ·simp only [← Bs as hne,Cy,LH,Ai,Ci,LY,seval]
     ·simp only [Ae,LH,Ai,Ci,LY,seval]
def BcC (M:Seat) (bl:List IrSt→List Nat→List Nat) (ss:List IrSt) (c:Nat):Prop:=∀ l:List Nat,l.length + c < 1000000 →
 As M 410 [DZ ss,Ee 0 l.length] (D8 l.length 0 (BO l) []) 1 (Q3 (Ee 1 (bl ss l).length) (D8 (bl ss l).length 1 (BO (bl ss l)) []) 2)
theorem J8 {M:Seat} (ok:OkNe M) (P:List Fu) (i:Nat) (hP:P.length < 1000) (l:Nat) (bl:List IrSt→List Nat→List Nat) (hbl:∀ ss c,RB P i l ss c→BcC M bl ss c∧∀ L,Clq P.length L (bl ss L) c)
 (ss:List IrSt) (c:Nat→Nat) (hl:ss.length < 1000) (hs:∀ j (hj:j < ss.length),RgS P i l ss[j] (c j)):BcC M (fun ss L=>SL (Je bl) ss L ss.length) ss (Be c ss.length):=by
 intro L hlen
 have hq:=fun j=>OO (K:=P.length) (f:=Je bl) (ss:=ss) (c:=c) (fun j hj l'=>by
  rw [List.getD_eq_getElem?_getD,List.getElem?_eq_getElem hj]
  exact Y5 P i l bl (fun ss c h=>(hbl ss c h).2) ss[j] (c j) (hs j hj) l') L j
 refine Ac ok.k410 rfl fun x hx=>?_;refine eX ?_;simp only [Tx,Adc,NH,A8,A7,A6,LZ,seval];refine Au (σ:=Nat) (fun j=>j≤ss.length) (fun j=>fr 45 [(1,Ee 1 (SL (Je bl) ss L j).length),(7,DZ ss),(8,.int .i64 ss.length),(9,.int .i64 j)]) (fun j=>D8 (SL (Je bl) ss L j).length 1 (BO (SL (Je bl) ss L j)) []) (fun _=>2) (fun j=>ss.length - j) 0 (Nat.zero_le _) ?_ ?_
 ·simp only [SL];refine Av.frO [0,0] [] [1] hx Bg Ab (by simp only [AA,seval]) ?_ ?_
  ·simp only [B9,Int.natCast_zero,LH,Ai,Ci,LY,seval]
  ·simp only [Ae,LH,Ai,Ci,LY,seval]
 intro j hj;refine eX ?_;by_cases hin:j=ss.length
 ·subst hin;have d0:((ss.length:Int) < (ss.length:Int))=False:=eq_false Aa;generalize SL (Je bl) ss L ss.length=m at *
  simp only [d0,LZ,seval];refine Ay.mkO hx [0,1] [] [1] _ _ _ (by simp only [Ae,AA,seval]) Ab (by (simp only [Dz,Ae,LH,Ai,seval])) (by ((try simp only [DK,Ae,LH,Ai,seval]);first | done | exact True.intro | (intros;rfl))) (by ((try simp only [Ae,LH,Ai,LY,seval]);first | done | exact True.intro | (intros;rfl))) ⟨rfl,rfl,rfl⟩
 ·have d0:((j:Int) < (ss.length:Int))=True:=eq_true Aa;have hlt:j < ss.length:=Aa;have hne:ss ≠ []:=NK;have hy:=NR ss j hlt;have w2:IntKind.i64.wrap ((j:Int) + 1)=((j + 1:Nat):Int):=B7;have hsl:=DF c hlt;have hql:=(hq j hj).len;have hn1:SL (Je bl) ss L (j + 1)=Je bl (ss.getD j PD) (SL (Je bl) ss L j):=rfl;have hR:=hs j hlt;have e:ss[j]=ss.getD j PD:=by rw [List.getD_eq_getElem?_getD,List.getElem?_eq_getElem hlt];rfl
  rw [e] at hR;generalize SL (Je bl) ss L j=m at *
  generalize ss.getD j PD=y at *
  generalize c j=cj at hR hsl;cases hR with
  | set _ n a b bo el ca h0 h1 ha =>
    have hC:=BI ok P i hP 8 a ca ha m Aa;simp only [Je,show ((1:Int)=2)=False by decide,show ((1:Int)=3)=False by decide,show ((1:Int)=4)=False by decide,if_false] at hn1;rw [Er] at hy;simp only [d0,Bq ss hne,hy,Al,An,Am,A8,A7,A6,LZ,seval];repeat refine sd ?_
    refine Ah [1] [1] [0] (hC) (by simp only [B6,Ae,AA,seval]) Ab (by ((try simp only [B6,Ae,LH,Ai,LY,seval]);first | done | exact True.intro | rfl)) (by ((try simp only [B6,Ae,LH,Ai,LY,seval]);first | done | exact True.intro | rfl)) ?_;simp only [Ad,Ae,LH,Ai,AW,w2,Al,An,Am,A8,A7,A6,decide_true,decide_false,seval];refine ⟨j + 1,by omega,by omega,?_⟩;rw [hn1];refine Av.frO [0,130] [] [1] hx Bg Ab (by simp only [AA,seval]) ?_ ?_
    ·simp only [← Bq ss hne,B9,LH,Ai,Ci,LY,seval]
    ·simp only [Ae,LH,Ai,Ci,LY,seval]
  | store _ n a b bo el ca cb ha hb =>
    have hC:=BI ok P i hP 8 a ca ha m Aa;have hk:=((FV P i 8 a ca ha).2 m).len;have hD:=BI ok P i hP 8 b cb hb (Hg 8 a m) Aa;simp only [Je,if_true] at hn1;rw [Er] at hy;simp only [d0,Bq ss hne,hy,Al,An,Am,A8,A7,A6,LZ,seval];repeat refine sd ?_
    refine Ah [1] [1] [0] (hC) (by simp only [B6,Ae,AA,seval]) Ab (by ((try simp only [B6,Ae,LH,Ai,LY,seval]);first | done | exact True.intro | rfl)) (by ((try simp only [B6,Ae,LH,Ai,LY,seval]);first | done | exact True.intro | rfl)) ?_;simp only [Ad,Ae,LH,Ai,AW,w2,Al,An,Am,A8,A7,A6,decide_true,decide_false,seval];refine Ah [130] [130] [0] (hD) (by simp only [B6,Ae,AA,seval]) Ab (by ((try simp only [B6,Ae,LH,Ai,LY,seval]);first | done | exact True.intro | rfl)) (by ((try simp only [B6,Ae,LH,Ai,LY,seval]);first | done | exact True.intro | rfl)) ?_;simp only [Ad,Ae,LH,Ai,AW,w2,Al,An,Am,A8,A7,A6,decide_true,decide_false,seval];refine ⟨j + 1,by omega,by omega,?_⟩;rw [hn1];refine Av.frO [0,258] [] [1] hx Bg Ab (by simp only [AA,seval]) ?_ ?_
    ·simp only [← Bq ss hne,B9,LH,Ai,Ci,LY,seval]
    ·simp only [Ae,LH,Ai,Ci,LY,seval]
  | branch _ n a b bo el ca cb ce ha hb he =>
    have hC:=BI ok P i hP 8 a ca ha m Aa;have hk:=((FV P i 8 a ca ha).2 m).len;obtain ⟨hB1,hB2⟩:=hbl bo cb hb;obtain ⟨hE1,hE2⟩:=hbl el ce he;have hD:=hB1 (Hg 8 a m) Aa;have hk2:=(hB2 (Hg 8 a m)).len;have hF:=hE1 (bl bo (Hg 8 a m)) Aa;simp only [Je,show ((3:Int)=2)=False by decide,Dh] at hn1;rw [Er] at hy;simp only [d0,Bq ss hne,hy,Al,An,Am,A8,A7,A6,LZ,seval];repeat refine sd ?_
    refine Ah [1] [1] [0] (hC) (by simp only [B6,Ae,AA,seval]) Ab (by ((try simp only [B6,Ae,LH,Ai,LY,seval]);first | done | exact True.intro | rfl)) (by ((try simp only [B6,Ae,LH,Ai,LY,seval]);first | done | exact True.intro | rfl)) ?_;simp only [Ad,Ae,LH,Ai,AW,w2,Al,An,Am,A8,A7,A6,decide_true,decide_false,seval];refine Ah [130] [130] [0] (hD) (by simp only [B9,Dr,Ae,AA,seval]) Ab (by ((try simp only [B9,Dr,Ae,LH,Ai,LY,seval]);first | done | exact True.intro | rfl)) (by ((try simp only [B9,Dr,Ae,LH,Ai,LY,seval]);first | done | exact True.intro | rfl)) ?_;simp only [Ad,Ae,LH,Ai,AW,w2,Al,An,Am,A8,A7,A6,decide_true,decide_false,seval];refine Ah [386] [386] [0] (hF) (by simp only [B9,Dr,Ae,AA,seval]) Ab (by ((try simp only [B9,Dr,Ae,LH,Ai,LY,seval]);first | done | exact True.intro | rfl)) (by ((try simp only [B9,Dr,Ae,LH,Ai,LY,seval]);first | done | exact True.intro | rfl)) ?_;simp only [Ad,Ae,LH,Ai,AW,w2,Al,An,Am,A8,A7,A6,decide_true,decide_false,seval];refine ⟨j + 1,by omega,by omega,?_⟩;rw [hn1];refine Av.frO [0,514] [] [1] hx Bg Ab (by simp only [AA,seval]) ?_ ?_
    ·simp only [← Bq ss hne,B9,LH,Ai,Ci,LY,seval]
    ·simp only [Ae,LH,Ai,Ci,LY,seval]
  | loop _ n a b bo el ca cb ha hb =>
    have hC:=BI ok P i hP 8 a ca ha m Aa;have hk:=((FV P i 8 a ca ha).2 m).len;obtain ⟨hB1,hB2⟩:=hbl bo cb hb;have hD:=hB1 (Hg 8 a m) Aa;simp only [Je,show ((4:Int)=2)=False by decide,show ((4:Int)=3)=False by decide,Dh] at hn1;rw [Er] at hy;simp only [d0,Bq ss hne,hy,Al,An,Am,A8,A7,A6,LZ,seval];repeat refine sd ?_
    refine Ah [1] [1] [0] (hC) (by simp only [B6,Ae,AA,seval]) Ab (by ((try simp only [B6,Ae,LH,Ai,LY,seval]);first | done | exact True.intro | rfl)) (by ((try simp only [B6,Ae,LH,Ai,LY,seval]);first | done | exact True.intro | rfl)) ?_;simp only [Ad,Ae,LH,Ai,AW,w2,Al,An,Am,A8,A7,A6,decide_true,decide_false,seval];refine Ah [130] [130] [0] (hD) (by simp only [B9,Dr,Ae,AA,seval]) Ab (by ((try simp only [B9,Dr,Ae,LH,Ai,LY,seval]);first | done | exact True.intro | rfl)) (by ((try simp only [B9,Dr,Ae,LH,Ai,LY,seval]);first | done | exact True.intro | rfl)) ?_;simp only [Ad,Ae,LH,Ai,AW,w2,Al,An,Am,A8,A7,A6,decide_true,decide_false,seval];refine ⟨j + 1,by omega,by omega,?_⟩;rw [hn1];refine Av.frO [0,386] [] [1] hx Bg Ab (by simp only [AA,seval]) ?_ ?_
    ·simp only [← Bq ss hne,B9,LH,Ai,Ci,LY,seval]
    ·simp only [Ae,LH,Ai,Ci,LY,seval]
  | other _ k n a b bo el ca h5 h7 ha =>
    have hC:=BI ok P i hP 8 a ca ha m Aa;have k2:(k=2)=False:=eq_false Aa;have k3:(k=3)=False:=eq_false Aa;have k4:(k=4)=False:=eq_false Aa;simp only [Je,k2,k3,k4,if_false] at hn1;rw [Er] at hy;simp only [d0,Bq ss hne,hy,Al,An,Am,A8,A7,A6,LZ,seval];repeat refine sd ?_
    refine Ah [1] [1] [0] (hC) (by simp only [B6,Ae,AA,seval]) Ab (by ((try simp only [B6,Ae,LH,Ai,LY,seval]);first | done | exact True.intro | rfl)) (by ((try simp only [B6,Ae,LH,Ai,LY,seval]);first | done | exact True.intro | rfl)) ?_;simp only [Ad,Ae,LH,Ai,AW,w2,k2,k3,k4,Al,An,Am,A8,A7,A6,decide_true,decide_false,seval];refine ⟨j + 1,by omega,by omega,?_⟩;rw [hn1];refine Av.frO [0,130] [] [1] hx Bg Ab (by simp only [AA,seval]) ?_ ?_
    ·simp only [← Bq ss hne,B9,LH,Ai,Ci,LY,seval]
    ·simp only [Ae,LH,Ai,Ci,LY,seval]
variable {M:Seat}
theorem Uf {l:List Nat} {n i:Nat} (hl:l.length=n) (hi:i < n) (w:Nat) (H:Hp) (m z:List Nat):Aw H m z (BO (l.set i w)) (.ar 1 n fun j=>if j=i then .int .i64 (w:Nat) else .int .i64 (l.getD j 0:Nat))=True:=by
 refine eq_true ⟨⟨rfl,by simp [hl]⟩,fun j _=>?_⟩;have e:(l.set i w).getD j 0=if j=i then w else l.getD j 0:=by
  simp only [List.getD_eq_getElem?_getD,List.getElem?_set];by_cases hj:j=i
  ·subst hj;simp [hl,hi]
  ·simp [hj,Ne.symm hj]
 show Aw H m z (.int .i64 ((l.set i w).getD j 0:Nat)) (if j=i then .int .i64 (w:Nat) else .int .i64 (l.getD j 0:Nat));rw [e]
 repeat' split
 all_goals rfl
def Yw:Nat→List IrSt→List Nat→List Nat
 | 0=>fun _ l=>l
 | k + 1=>fun ss l=>SL (cbS k) ss l ss.length
theorem Aq2 (id n:Nat) (q:List Stp) (o:Nat) (h:0 < n):AQ true (ES.nils 0) (.sl id q o n 1) .nils=True:=by simp [AQ];exact h
theorem Aqg (id n:Nat) (q:List Stp) (o:Nat):AX (ES.nils 0) (.sl id q o n 1) .nils=false:=rfl
theorem Zp (ok:OkNe M):BcC M (fun _ l=>l) [] 0:=by
 intro L hL;simp only [DZ];refine Ac ok.k410 rfl fun x hx=>?_;refine eX ?_;simp only [Tx,Adc,LZ,seval];refine AJ ?_;refine eX ?_;simp only [LZ,seval];refine Ay.mkO hx [0,0] [] [1] _ _ _ (by simp only [Ae,AA,seval]) Ab (by (simp only [Dz,Ae,LH,Ai,seval])) (by ((try simp only [DK,Ae,LH,Ai,seval]);first | done | exact True.intro | (intros;rfl))) (by ((try simp only [Ae,LH,Ai,LY,seval]);first | done | exact True.intro | (intros;rfl))) ⟨rfl,rfl,rfl⟩
theorem OT (ok:OkNe M) (P:List Fu) (i:Nat) (hP:P.length < 1000):∀ k ss c,RB P i k ss c→BcC M (Yw k) ss c∧∀ L,Clq P.length L (Yw k ss L) c
 | 0, _, _, h => by
   cases h with
   | nil=>exact ⟨Zp ok,fun L=>Clq.refl _ _ _⟩
 | k + 1, ss, _, .mk _ _ c hl h => by
   have hbl:=OT ok P i hP k;have e:cbS k=Je (Yw k):=by cases k <;> rfl
   have hr:=J8 ok P i hP k (Yw k) hbl ss c hl h;rw [← e] at hr
   exact ⟨hr,fun L=>OO (c:=c) (fun j hj l=>by
    rw [List.getD_eq_getElem?_getD,List.getElem?_eq_getElem hj]
    exact VI P i k ss[j] (c j) (h j hj) l) L ss.length (Nat.le_refl _)⟩
theorem O7 (ok:OkNe M) (l:List Nat) (h0:l.length ≠ 0) (h1:l.length < 1000000) :
 As M 409 [.sl 0 [] 0 l.length 1] [(0,BO l)] 1 (Q3 (.sl 1 [] 0 l.length 1) [(0,BO l),(1,BO l)] 2):=by
 have hnl:BO l = .ar 1 l.length fun j=>.int .i64 (l.getD j 0:Nat):=rfl;refine Ac ok.k409 rfl fun x hx=>?_;have np:=Aq2 0 l.length [] 0 Aa;rw [hnl];refine eX ?_;simp only [Xb,Aj6,np,Aqg,LZ,seval];refine ⟨by omega,?_⟩;exact Ay.mkZ hx [0,81] ⟨rfl,rfl,rfl⟩
theorem Qm (ok:OkNe M) (P:List Fu) (c:Nat→Nat) (hP:RgP P c) (cs:List (Nat × Nat)) (S:Cd) (hSP:S.P=P) (hfr:S.frames.length=P.length) (hF:∀ y ∈ S.frames,y≤100000) :
 As M 307 [.ptr 0 []] [(0,Hh 1 2 3 5 6 7 cs S),(2,BO S.frames)] 8 (Q3 (.int .i64 (neS P S.frames)) [(0,Hh 1 2 3 5 6 7 cs S),(2,BO S.frames)] 8):=by
 have hne:=hP.ne;have hlen:=hP.len;have hn0:S.frames.length ≠ 0:=by rw [hfr];intro h;exact hne (List.length_eq_zero_iff.1 h)
 have hn0':0 < P.length:=Aa;have hC:=O7 ok S.frames hn0 Aa;have hL:=BD P hne;have hsl:∀ H m z,Aw H m z (.lst 3 P.length (BW P)) (.lst 3 P.length (BW P))=True:=fun H m z=>by rw [← hL];exact eq_true (En H m z P)
 have w0:IntKind.i64.wrap ((P.length:Int) - 1)=(P.length:Int) - 1:=Pt;have hbo:∀ j,j < P.length→RB P j 16 (P.getD j MG).body (c j):=fun j hj=>by rw [Gi hj];exact hP.body j hj
 have hsu:((List.range P.length).map c).sum=Be c P.length:=rfl;have hsum:=hP.sum;rw [hsu] at hsum;simp only [Hh,hSP,hL];refine Ac ok.k307 rfl fun x hx=>?_;refine eX ?_;simp only [Xz,Agy,AD hn0,LZ,seval];refine Ah [2] [2] [0] (hC) (by simp only [Ae,AA,seval]) Ab (by ((try simp only [Ae,LH,Ai,LY,seval]);first | done | exact True.intro | rfl)) (by ((try simp only [Ae,LH,Ai,LY,seval]);first | done | exact True.intro | rfl)) ?_;simp only [Ad,H7,El,Ae,LH,Ai,AW,w0,seval];refine Au (σ:=Nat) (fun k=>k≤P.length) (fun k=>fr 54 [(0,.ptr 0 []),(3,.sl 8 [] 0 S.frames.length 1),(4,.int .i64 ((P.length:Int) - 1 - k))])
  (fun k=>[(0,Hh 1 2 3 5 6 7 cs S),(2,BO S.frames),(8,BO (JY P S.frames k))]) (fun _=>9) (fun k=>P.length - k) 0 (Nat.zero_le _) ?_ ?_
 ·simp only [JY,Hh,hSP,hL,AD hn0];refine Av.frO [0,1,2,3,4,5,6,7,88] [] [0,2,8] hx Bg Ab (by simp only [AA,seval]) ?_ ?_
  ·simp only [Int.natCast_zero,Int.sub_zero,LH,Ai,LY,seval]
  ·simp only [hsl,AI,Ae,LH,Ai,Ci,LY,seval]
 intro k hk;refine eX ?_;have hml:=RQ P S.frames k;have hmb:=Rt P S.frames 100000 hF k hk;by_cases hin:k=P.length
 ·subst hin;have d0:(0≤(P.length:Int) - 1 - (P.length:Int))=False:=eq_false Aa;have hneS:neS P S.frames=(JY P S.frames P.length).getD 0 0:=rfl;rw [hneS];generalize JY P S.frames P.length=mo at *
  have hnl:BO mo = .ar 1 S.frames.length fun j=>.int .i64 (mo.getD j 0:Nat):=by rw [← hml];rfl
  simp only [Hh,hSP,hL,AD hn0,hnl];have d1:((0:Int) < (S.frames.length:Int))=True:=eq_true Aa;simp only [d0,d1,LZ,seval];refine ⟨by omega,?_⟩;refine Ay.mkO hx [0,1,2,3,4,5,6,7] [] [0,2] _ _ _ (by simp only [hsl,AI,Ae,AA,seval]) Ab (by (simp only [Dz,hsl,AI,Ae,LH,Ai,seval])) (by ((try simp only [DK,hsl,AI,Ae,LH,Ai,seval]);first | done | exact True.intro | (intros;rfl))) (by ((try simp only [hsl,AI,Ae,LH,Ai,LY,seval]);first | done | exact True.intro | (intros;rfl))) ⟨rfl,rfl,rfl⟩
 ·obtain ⟨i,hi⟩:∃ i,i=P.length - 1 - k:=⟨_,rfl⟩
  have hil:i < P.length:=Aa;have he:(P.length:Int) - 1 - k=(i:Int):=Aa;have d0:(0≤(i:Int))=True:=eq_true Aa;have d1:((i:Int) < (P.length:Int))=True:=eq_true Aa;have hfi:=Ft hil;have hB:=(OT ok P i Aa 16 _ (c i) (hbo i hil)).1 [] (by have:=DF c hil;simp only [List.length_nil];omega);have hBq:=Apc P i _ (c i) (hbo i hil);have hn1:JY P S.frames (k + 1)=(JY P S.frames k).set i ((JY P S.frames k).getD i 0 + Vz (JY P S.frames k) (cbF (P.getD i MG).body) (cbF (P.getD i MG).body).length):=by rw [hi];rfl
  rw [← Gi hil] at hfi;have ecb:Yw 16 (P.getD i MG).body []=cbF (P.getD i MG).body:=rfl;rw [ecb] at hB;generalize cbF (P.getD i MG).body=L at *
  generalize (P.getD i MG).body=body at *
  generalize JY P S.frames k=mo at *
  simp only [I1,SD,List.length_nil] at hB;simp only [Hh,hSP,hL,AD hn0,he];simp only [d0,d1,hfi,A8,A7,A6,LZ,seval];refine Ah [1] [] [] (hB) (by simp only [B9,Dr,Ae,AA,seval]) Ab (by ((try simp only [B9,Dr,Ae,LH,Ai,LY,seval]);first | done | exact True.intro | rfl)) (by ((try simp only [B9,Dr,Ae,LH,Ai,LY,seval]);first | done | exact True.intro | rfl)) ?_;simp only [Ad,H7,El,Ae,LH,Ai,AW,ER,seval];have hLl:L.length≤6000:=by have:=hBq.len;have:=DF c hil;simp only [List.length_nil] at *;omega
  refine Au (σ:=Nat) (fun j=>j≤L.length) (fun j=>fr 54 [(0,.ptr 0 []),(3,.sl 8 [] 0 S.frames.length 1),(4,.int .i64 i),(5,.int .i64 (Vz mo L j)),(31,Ee 9 L.length),(32,.int .i64 L.length),(33,.int .i64 j)])
   (fun j=>(0,Hh 1 2 3 5 6 7 cs S) :: (2,BO S.frames) :: (8,BO mo) :: D8 L.length 9 (BO L) []) (fun _=>10) (fun j=>L.length - j) 0 (Nat.zero_le _) ?_ ?_
  ·simp only [Vz,Hh,hSP,hL,AD hn0];refine Av.frO [0,1,2,3,4,5,6,7,8,185] [] [0,2,8,9] hx Bg Ab (by simp only [AA,seval]) ?_ ?_
   ·simp only [Int.natCast_zero,Int.sub_zero,LH,Ai,LY,seval]
   ·simp only [hsl,AI,Ae,LH,Ai,Ci,LY,seval]
  intro j hj;refine eX ?_;have hmg:∀ q,mo.getD q 0≤(k + 1) * 100000:=fun q=>by
   rw [List.getD_eq_getElem?_getD];cases he:mo[q]? with
   | none=>exact Nat.zero_le _
   | some y=>exact hmb y (List.mem_of_getElem? he)
  have hdp:=Ru mo L _ hmb;have hnl:BO mo = .ar 1 S.frames.length fun j=>.int .i64 (mo.getD j 0:Nat):=by rw [← hml];rfl
  simp only [Hh,hSP,hL,AD hn0];by_cases hjn:j=L.length
  ·subst hjn;have d3:((L.length:Int) < (L.length:Int))=False:=eq_false Aa;have d4:((i:Int) < (S.frames.length:Int))=True:=eq_true Aa;have hk64:(k + 1) * 100000≤6500000:=Aa;have hd1:=hdp L.length;have hd2:=hmg i;have w5:IntKind.i64.wrap ((mo.getD i 0:Int) + (Vz mo L L.length:Int))=((mo.getD i 0 + Vz mo L L.length:Nat):Int):=B7;have w6:IntKind.i64.wrap ((i:Int) - 1)=(P.length:Int) - 1 - (k + 1:Nat):=B7;generalize Vz mo L L.length=dp at *
   simp only [hnl];simp only [d0,d3,d4,w5,w6,LZ,seval];refine ⟨by omega,by omega,k + 1,by omega,by omega,?_⟩;rw [hn1];have hss:=fun H m z=>Uf (i:=i) hml Aa (mo.getD i 0 + dp) H m z;refine Av.frO [0,1,2,3,4,5,6,7,8] [] [0,2,8] hx Bg Ab (by simp only [AA,seval]) ?_ ?_
   ·simp only [LH,Ai,LY,seval]
   ·simp only [hsl,AI,hss,Ae,LH,Ai,Ci,LY,seval]
  ·have d3:((j:Int) < (L.length:Int))=True:=eq_true Aa;have d4:(0≤(j:Int))=True:=eq_true Aa;have hlt:j < L.length:=Aa;have hne2:L.length ≠ 0:=Aa;have hnL:BO L = .ar 1 L.length fun j=>.int .i64 (L.getD j 0:Nat):=rfl;have hfl:L.getD j 0 < P.length:=by
    rw [List.getD_eq_getElem?_getD,List.getElem?_eq_getElem hlt];exact hBq.lt (fun x hx=>by cases hx) _ (List.getElem_mem hlt)
   have d5:(0≤((L.getD j 0:Nat):Int))=True:=eq_true Aa;have d6:(((L.getD j 0:Nat):Int) < (S.frames.length:Int))=True:=eq_true Aa;have w2:IntKind.i64.wrap ((j:Int) + 1)=((j + 1:Nat):Int):=B7;have hn2:Vz mo L (j + 1)=max (Vz mo L j) (mo.getD (L.getD j 0) 0):=rfl;simp only [d3,d4,d5,d6,AD hne2,CK hne2,hnL,hnl,LH,Ai,w2,Aks,LZ,seval];refine ⟨by omega,by omega,j + 1,by omega,by omega,?_⟩;rw [hn2];simp only [← hnl,← hnL];refine Av.frO [0,1,2,3,4,5,6,7,8,9] [] [0,2,8,9] hx Bg Ab (by simp only [AA,seval]) ?_ ?_
   ·simp only [AD hne2,LH,Ai,LY,seval]
   ·simp only [AD hne2,CK hne2,hsl,AI,Ae,LH,Ai,Ci,LY,seval]
theorem RF (P:List Fu) (base:Int):(Bj P base).P=(CR P (BJ P base) P.length).P∧(Bj P base).frames=(CR P (BJ P base) P.length).frames∧(Bj P base).words.length=(CR P (BJ P base) P.length).words.length + 1:=by
 have h1:=FW (CR P (BJ P base) P.length) (CR P (BJ P base) P.length).calls (CR P (BJ P base) P.length).entries (fun _=>true) (CR P (BJ P base) P.length).calls.length;have h2:=Ka (Dv (CR P (BJ P base) P.length) (CR P (BJ P base) P.length).calls (CR P (BJ P base) P.length).entries (fun _=>true) (CR P (BJ P base) P.length).calls.length) (Dv (CR P (BJ P base) P.length) (CR P (BJ P base) P.length).calls (CR P (BJ P base) P.length).entries (fun _=>true) (CR P (BJ P base) P.length).calls.length).bad (Dv (CR P (BJ P base) P.length) (CR P (BJ P base) P.length).calls (CR P (BJ P base) P.length).entries (fun _=>true) (CR P (BJ P base) P.length).calls.length).bad.length;refine ⟨h2.1.trans h1.1,h2.2.2.2.1.trans h1.2.2.2.1,?_⟩;refine (Sk _ _).trans ?_;exact congrArg (· + 1) (h2.2.2.2.2.2.2.2.2.2.2.2.trans h1.2.2.2.2.2.2.2.2.2.2.2)
structure OkCp (M:Seat):Prop where
 ne:OkNe M
 k181:Ar M 181 YL=true
def AK (P:List Fu):Nat:=(Bj P 512).words.length + 512
theorem Lf (ok:OkCp M) (P:List Fu) (c:Nat→Nat) (hP:RgP P c) (hb:AK P≤6144) (hn:neS P (Bj P (AK P)).frames≤512) :
 As M 181 [FC P] [] 0 (Q3 (AP (.st 2 (.fcons 0 (.sl 0 [] 0 (Bj P (AK P)).words.length 1) (.fcons 1 (.int .i64 (AK P)) .fnil))) .nili) [(0,EN (Bj P (AK P)).words)] 1):=by
 have hK:=Kv ok.ne.cd.fu.co.c P c hP;have hA:=IA ok.ne.cd P c hP 512 Ab;have hB:=IA ok.ne.cd P c hP (AK P) (by unfold AK at *;omega);have hbo:∀ j,j < P.length→RB P j 16 (P.getD j MG).body (c j):=fun j hj=>by rw [Gi hj];exact hP.body j hj
 have hlo:∀ j,j < P.length→0≤Bi P j∧Bi P j≤24:=fun j hj=>by have:=hP.par j hj;omega
 have hI:=Ng P (AK P) c hbo hlo hP.sum P.length (Nat.le_refl _);obtain ⟨e1,e2,e3⟩:=RF P (AK P);have hfr:(Bj P (AK P)).frames.length=P.length:=by rw [e2];exact hI.fr
 have hN:=Qm ok.ne P c hP (CR P (BJ P (AK P)) P.length).calls (Bj P (AK P)) (e1.trans hI.eP) hfr (by rw [e2];exact hI.fb);have hP0:=e1.trans hI.eP;have hn0:(Bj P (AK P)).frames.length ≠ 0:=by rw [hfr];intro h;exact hP.ne (List.length_eq_zero_iff.1 h)
 obtain ⟨e4,e5,e6⟩:=RF P 512;have w0:IntKind.i64.wrap (((Bj P 512).words.length:Int) + 512)=(AK P:Int):=by unfold AK at *;rw [AR Aa];omega
 have d0:((6144:Int) < (AK P:Int))=False:=eq_false Aa;have d1:((512:Int) < (neS P (Bj P (AK P)).frames:Int))=False:=eq_false Aa;generalize Bj P 512=A at *
 generalize Bj P (AK P)=B at *
 generalize (CR P (BJ P (AK P)) P.length).calls=cs at *
 generalize (CR P (BJ P 512) P.length).calls=cs0 at *
 generalize AK P=b at *
 simp only [Hh,AD hn0,CK hn0,hP0] at hB hN;simp only [Hh] at hA;have hL:=BD P hP.ne;refine Ac ok.k181 rfl fun x hx=>?_;refine eX ?_;simp only [YL,Aj2,LZ,seval];have zz:=@Py;refine IQ (hK) ?_;simp only [LZ,seval];refine Ah [] [] [] (hA) (by simp only [Ak,Py,AA,seval]) Ab (by ((try simp only [Ak,Py,LH,Ai,LY,seval]);first | done | exact True.intro | rfl)) (by ((try simp only [Ak,Py,LH,Ai,LY,seval]);first | done | exact True.intro | rfl)) ?_;simp only [Ad,El,Ae,LH,Ai,AW,w0,seval];refine Ah [] [] [] (hB) (by simp only [Ak,Py,AA,seval]) Ab (by ((try simp only [Ak,Py,LH,Ai,LY,seval]);first | done | exact True.intro | rfl)) (by ((try simp only [Ak,Py,LH,Ai,LY,seval]);first | done | exact True.intro | rfl)) ?_;simp only [Ad,El,Ae,LH,Ai,AW,d0,seval];refine Ah [272,273,274,275,276,277,278,279] [272,274] [0,2] (hN) (by simp only [Ak,AI,Ae,AA,seval]) Ab (by ((try simp only [Ak,AI,Ae,LH,Ai,LY,seval]);first | done | exact True.intro | rfl)) (by ((try simp only [Ak,AI,Ae,LH,Ai,LY,seval]);first | done | exact True.intro | rfl)) ?_;simp only [Ad,El,Ae,LH,Ai,AW,d0,d1,Dk,Dl,Dj,decide_true,decide_false,seval];refine Ay.mkO hx [273] [] [0] _ _ _ (by simp only [AP,Ak,Ae,AA,seval]) Ab (by (simp only [LV,EM,Ak,Ae,LH,Ai,seval])) (by ((try simp only [LV,EM,Ak,Ae,LH,Ai,seval,LY]);first | done | exact True.intro | (intros;rfl))) (by ((try simp only [AP,Ak,Ae,LH,Ai,LY,seval]);first | done | exact True.intro | (intros;rfl))) ⟨rfl,rfl,rfl⟩
end Mv
