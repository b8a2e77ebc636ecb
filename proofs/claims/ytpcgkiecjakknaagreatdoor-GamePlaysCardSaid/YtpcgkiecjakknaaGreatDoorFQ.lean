/- A part. -/
import Derived.Test.YtpcgkiecjakknaaGreatDoorFP
set_option linter.all false
set_option maxRecDepth 20000
set_option maxHeartbeats 16000000
namespace Mv
open Go
variable {M:Seat}
structure OkRt (M:Seat):Prop where
 n:OkN M
 f:OkWF M
 k142:Au M 142 Apq=true
 k147:Au M 147 Asd=true
theorem Akr (ok:OkRt M) (c:Int):Ag M 142 [.nili,.int .i64 c,.int .i64 0] [] 0 (Q3 (.bool true) [] 0):=by
 refine Ab ok.k142 rfl fun x hx=>?_
 refine es 2000 ?_;(simp only [Apq,Apg,LZ,seval])
 refine Ak (Als ok.n) ?_
 (simp only [AH,seval])
 exact Ar.mkZ hx [] ⟨rfl,rfl,rfl⟩
theorem Akq (ok:OkRt M) (c e:Int):Ag M 142 [.ifc 145 (.ptr 0 []),.int .i64 c,.int .i64 e] [(0,Bt c e)] 1 (Q3 (.bool true) [(0,Bt c e)] 1):=by
 have h:=Rn ok.f c e
 simp only [Bt,er] at h
 refine Ab ok.k142 rfl fun x hx=>?_
 by_cases h0:e=0
 ·subst h0
  refine es 2000 ?_;(simp only [Apq,Apg,Bt,er,LZ,seval])
  have zz:=Bb @Bt.eq_1 @er.eq_1;refine SM [0] (h) ?_
  (simp only [AH,Bt,er,seval])
  have zz:=Bb @Bt.eq_1 @er.eq_1;exact Bf hx [0] ⟨rfl,rfl,rfl⟩
 ·refine es 2000 ?_;(simp only [Apq,Apg,Bt,er,LZ,seval])
  have zz:=Bb @Bt.eq_1 @er.eq_1;refine SM [0] (h) ?_
  (simp only [AH,Bt,er,h0,seval])
  have zz:=Bb @Bt.eq_1 @er.eq_1;exact Bf hx [0] ⟨rfl,rfl,rfl⟩
theorem Apf (a:Dg):AD false (ES.ar 32 1 false ES.int) (.ar 1 32 fun j=>B (a.at j)) (.ar 1 32 fun j=>B (a.at j))=True:=eq_true (Gk false a a)
theorem Apt (a:Dg):AK (ES.ar 32 1 false ES.int) (.ar 1 32 fun j=>B (a.at j)) (.ar 1 32 fun j=>B (a.at j))=true:=by
 simp [AK,B]
theorem Aq6 (a b:Bool):AD false ES.bool (.bool a) (.bool b)=True:=by simp [AD]
theorem Aqt (a:Bool):AK ES.bool (.bool a) (.bool a)=true:=by simp [AK]
theorem Al5 (ok:OkRt M) (c:Cl):Ag M 147 [c.v,c.d] [] 0 (Q3 (.bool true) [] 0):=by
 refine Ab ok.k147 rfl fun x hx=>?_
 refine es 2000 ?_;(simp only [Asd,Ar2,Cl.v,Cl.d,Ac,dg,Ack,Adz,Apf,Apt,Aq6,Aqt,LZ,seval])
 exact Ar.mkZ hx [] ⟨rfl,rfl,rfl⟩
theorem Ane {M:Seat} (k272:Au M 272 Aqv=true) (root:Dg) (h:Hd) (l:List Pf) (pre:Pr) :
 Ag M 272 [BI root h l pre] [] 0 (Q3 (hdR (.sl 0 [] 0 16 1) h.pc h.hl h.xt) [(0,.ar 1 16 fun j=>W (h.g j))] 1):=by
 obtain ⟨g,pc,hl,xt⟩:=h
 refine Ab k272 rfl fun x hx=>?_
 refine es 2000 ?_;(simp only [Aqv,Arv,BI,Hd.v,CR,Nat.testBit,List.map_nil,List.map_cons,B3,seval])
 have zz:=@hdR.eq_1;exact Bf hx [352] ⟨rfl,rfl,rfl⟩
theorem Aof {σ:Type} (m:Mm σ) (g:Nat→BitVec 64) (pc pc2:BitVec 64) (hl:Bool) (xt:BitVec 64) (s:σ) (to:BitVec 64) (t:Nat) (p:Nat→BitVec 8):(Nc m ⟨g,pc,hl,xt⟩ s to t p).2=(Nc m ⟨g,pc2,hl,xt⟩ s to t p).2:=by
 unfold Nc
 rcases wrA m to (Z9 p) t 0 s with ⟨_ | e,s'⟩ <;> rfl
theorem Apx {σ:Type} (m:Mm σ) (g:Nat→BitVec 64) (pc pc2:BitVec 64) (hl:Bool) (xt:BitVec 64) (s:σ) (to:BitVec 64) (d:Dg):(Abv m ⟨g,pc,hl,xt⟩ s to d).2=(Abv m ⟨g,pc2,hl,xt⟩ s to d).2:=by
 unfold Abv
 rcases m.pi s d with ⟨p,_ | e,s'⟩
 ·exact Aof ..
 ·rfl
theorem Ara {σ:Type} (m:Mm σ) (op:Nat) (g:Nat→BitVec 64) (pc pc2:BitVec 64) (hl:Bool) (xt:BitVec 64) (s:σ) (a b:BitVec 64):(Tp m op ⟨g,pc,hl,xt⟩ s a b).2=(Tp m op ⟨g,pc2,hl,xt⟩ s a b).2:=by
 unfold Tp
 by_cases h:(wi a (if op=35 then 4#64 else 8#64) && wi b (if op=35 then 8#64 else 4#64))=false
 ·rw [if_pos h,if_pos h]
 ·rw [if_neg h,if_neg h]
  rcases SU m a (if op=35 then 4 else 8) 0 s [] with ⟨_ | e,s',l⟩
  ·dsimp only
   by_cases h4:op=34
   ·rw [if_pos h4,if_pos h4];exact Aof ..
   ·rw [if_neg h4,if_neg h4];exact Apx ..
  ·rfl
theorem Aq9 {σ:Type} (m:Mm σ) (g:Nat→BitVec 64) (pc pc2:BitVec 64) (hl:Bool) (xt:BitVec 64) (w:BitVec 64) (s:σ):(Wy m ⟨g,pc,hl,xt⟩ w s).2=(Wy m ⟨g,pc2,hl,xt⟩ w s).2:=by
 unfold Wy
 dsimp only
 simp only [apply_ite Prod.snd]
 rw [Ara m (CP w) g pc pc2]
theorem Api (root:Dg) (l:List Pf) (pre:Pr) (g:Nat→BitVec 64) (pc xt:BitVec 64) (h1:Hd) (c1:Ck) (hq:nx ckM ⟨g,pc,false,xt⟩ ⟨root,l,pre⟩=(h1,none,c1)) :
 ∃ p q,l=p :: q∧p.p.length=13∧∀ pc2,(C1 pc2.toNat (BC p.v) p.p 13=root→∃ h2,nx ckM ⟨g,pc2,false,xt⟩ ⟨root,l,pre⟩=(h2,none,c1))∧(¬ C1 pc2.toNat (BC p.v) p.p 13=root→(nx ckM ⟨g,pc2,false,xt⟩ ⟨root,l,pre⟩).2.1=some 31):=by
 have e0:∀ pc2,nx ckM ⟨g,pc2,false,xt⟩ ⟨root,l,pre⟩=match (ckM.rd ⟨root,l,pre⟩ pc2).2.1 with | some e=>(⟨g,pc2,false,xt⟩,some e,(ckM.rd ⟨root,l,pre⟩ pc2).2.2) | none=>Wy ckM ⟨g,pc2,false,xt⟩ (ckM.rd ⟨root,l,pre⟩ pc2).1 (ckM.rd ⟨root,l,pre⟩ pc2).2.2:=fun _=>rfl
 rw [e0] at hq
 cases l with
 | nil=>cases hq
 | cons p q =>
   have e1:∀ pc2:BitVec 64,(ckM.rd ⟨root,p :: q,pre⟩ pc2).2.1=(if ¬ p.p.length=13 then some (3:Int) else if C1 pc2.toNat (BC p.v) p.p 13=root then none else some 31):=fun _=>rfl
   by_cases hp:p.p.length=13
   ·refine ⟨p,q,rfl,hp,fun pc2=>⟨fun hf=>?_,fun hf=>?_⟩⟩
    ·rw [e1,if_neg (fun h=>h hp)] at hq
     by_cases hf0:C1 pc.toNat (BC p.v) p.p 13=root
     ·rw [if_pos hf0] at hq
      have hq:Wy ckM ⟨g,pc,false,xt⟩ p.v ⟨root,q,pre⟩=(h1,none,c1):=hq
      have hz:=Aq9 ckM g pc pc2 false xt p.v ⟨root,q,pre⟩
      rw [hq] at hz
      rw [e0,e1,if_neg (fun h=>h hp),if_pos hf]
      exact ⟨(Wy ckM ⟨g,pc2,false,xt⟩ p.v ⟨root,q,pre⟩).1,Prod.ext rfl hz.symm⟩
     ·rw [if_neg hf0] at hq;cases hq
    ·rw [e0,e1,if_neg (fun h=>h hp),if_neg hf]
   ·rw [e1,if_pos hp] at hq;cases hq
theorem Al7 (root:Dg) (l:List Pf) (pre:Pr) (g:Nat→BitVec 64) (pc xt:BitVec 64) (h1:Hd) (r1:Dg) (p1:Pr) (hq:nx ckM ⟨g,pc,false,xt⟩ ⟨root,l,pre⟩=(h1,none,⟨r1,[],p1⟩)) :
 ∃ p q,l=p :: q∧p.p.length=13∧∀ (pc2:BitVec 64) (claim:Dg),
  (¬ Ch root (DT g pc2 false xt)=claim→vfy claim root ⟨g,pc2,false,xt⟩ l pre=(Dg.zero,some 31)) ∧
  (Ch root (DT g pc2 false xt)=claim→8192#64≤pc2→vfy claim root ⟨g,pc2,false,xt⟩ l pre=(Dg.zero,some 3)) ∧
  (Ch root (DT g pc2 false xt)=claim→¬ 8192#64≤pc2→¬ C1 pc2.toNat (BC p.v) p.p 13=root→vfy claim root ⟨g,pc2,false,xt⟩ l pre=(Dg.zero,some 31)) ∧
  (Ch root (DT g pc2 false xt)=claim→¬ 8192#64≤pc2→C1 pc2.toNat (BC p.v) p.p 13=root→∃ d,vfy claim root ⟨g,pc2,false,xt⟩ l pre=(d,none)):=by
 obtain ⟨p,q,hl,hp,H⟩:=Api root l pre g pc xt h1 _ hq
 refine ⟨p,q,hl,hp,fun pc2 claim=>⟨fun h=>?_,fun h h8=>?_,fun h h8 hf=>?_,fun h h8 hf=>?_⟩⟩
 ·unfold vfy;rw [if_pos h]
 ·unfold vfy;rw [if_neg (fun n=>n h),if_neg (show ¬ (false=true) by decide),if_pos h8,vfE,hl,if_neg B5]
 ·unfold vfy;rw [if_neg (fun n=>n h),if_neg (show ¬ (false=true) by decide),if_neg h8,(H pc2).2 hf];rfl
 ·obtain ⟨h2,e⟩:=(H pc2).1 hf
  unfold vfy;rw [if_neg (fun n=>n h),if_neg (show ¬ (false=true) by decide),if_neg h8,e]
  exact ⟨_,by show vfE _ _=_;rw [vfE,if_pos rfl]⟩
variable {M:Seat}
theorem Al2 (ok:OkRV M) (claim root:Dg) (h:Hd) (l:List Pf) (pre:Pr) (hc:¬ Ch root (DT h.g h.pc h.hl h.xt)=claim) :
 Ag M 242 [dg claim,dg root,hdR (.sl 0 [] 0 16 1) h.pc h.hl h.xt,.lst 2 l.length (HC l),Bk pre] [(0,.ar 1 16 fun j=>W (h.g j))] 1 (Q3 (Ah (dg Dg.zero) (.int .i64 31)) [(0,.ar 1 16 fun j=>W (h.g j))] 1):=by
 obtain ⟨g,pc,hl,xt⟩:=h
 dsimp only at hc ⊢
 refine Ab ok.k242 rfl fun x hx=>?_
 refine es 2000 ?_;(simp only [Ao8,Aox,hdR,Bk,EE,seval])
 have zz:=Bb @hdR.eq_1 @dg.eq_1;refine G0 (Akh ok.s.w g pc hl xt) ?_
 (simp only [LZ,seval])
 have zz:=@dg.eq_1;refine G0 (Akb ok.s.w.b root (DT g pc hl xt)) ?_
 (simp only [EE,NM,hc,decide_false,seval])
 have zz:=C4 @dg.eq_1 @LM @J3;exact Bf hx [0] ⟨rfl,rfl,rfl⟩
def Alw (c:Ck) (y:Int):V:=.st 34 (.fcons 0 (dg c.root) (.fcons 32 (.lst 2 c.l.length (HC c.l)) (.fcons 33 (.int .i64 y) .fnil)))
theorem Amz (ok:OkRS M) (root:Dg) (p:Pf) (l:List Pf) (pre:Pr) (a v:BitVec 64) (ha:¬ 8192#64≤a) (hp:p.p.length=13) (hf:¬ C1 a.toNat (BC p.v) p.p 13=root) (b:Bool) :
 Ag M 451 [.ptr 0 [],W a,W v,.bool b] [(0,ckD ⟨root,p :: l,pre⟩)] 1 (Q3 (W 0#64) [(0,Alw ⟨root,l,pre⟩ 31)] 1):=by
 refine Ab ok.k451 rfl fun x hx=>?_
 have e0:(((l.length + 1:Nat):Int)=0)=False:=eq_false Aa
 have e1:HC (p :: l) 0=Il p:=rfl
 have e2:l.length + 1 - 1=l.length:=rfl
 have e3:∀ i,HC (p :: l) (1 + i)=HC l i:=fun i=>by rw [Nat.add_comm];rfl
 have ha':=pfl a ha
 have w0:a.toInt=(a.toNat:Int):=BitVec.toInt_eq_toNat_of_lt Aa
 have hF:=Alf ok.w a.toNat (BC p.v) p.p Aa (by rw [hp];omega)
 simp only [hp,row] at hF
 refine es 2000 ?_;(simp only [Ap9,Aqj,ckD,List.length_cons,e0,e1,e2,e3,QF hp,LZ,seval])
 repeat refine sd ?_
 refine Bq (Akt ok.w p.v) ?_
 (simp only [w0,LZ,seval])
 have zz:=Bb @Fk.eq_1 @dg.eq_1;refine G0 (hF) ?_
 (simp only [AH,hf,decide_false,seval])
 have zz:=C4 @Alw.eq_1 VS @Fk.eq_1;exact Bf hx [0] ⟨rfl,rfl,rfl⟩
theorem Anc (ok:OkRS M) (root:Dg) (p:Pf) (l:List Pf) (pre:Pr) (a:BitVec 64) (ha:¬ 8192#64≤a) (hp:p.p.length=13) (hf:¬ C1 a.toNat (BC p.v) p.p 13=root) :
 Ag M 450 [.ptr 0 [],W a] [(0,ckD ⟨root,p :: l,pre⟩)] 1 (Q3 (W 0#64) [(0,Alw ⟨root,l,pre⟩ 31)] 1):=by
 refine Ab ok.k450 rfl fun x hx=>?_
 have h:=Amz ok root p l pre a 0#64 ha hp hf false
 refine es 2000 ?_;(simp only [Aq5,Aq3,LZ,seval])
 have zz:=Ka @ckD.eq_1 @Alw.eq_1 @dg.eq_1 @Be;refine Bw [0] [0] (h) ?_
 (simp only [Alw,Ake,EE,seval])
 have zz:=Bb @Be @dg.eq_1;exact Bf hx [0] ⟨rfl,rfl,rfl⟩
theorem Alz (ok:OkRV M) (root:Dg) (g:Nat→BitVec 64) (pc xt:BitVec 64) (p:Pf) (l:List Pf) (pre:Pr) (hpc:8192#64≤pc) :
 Ag M 242 [dg (Ch root (DT g pc false xt)),dg root,hdR (.sl 0 [] 0 16 1) pc false xt,.lst 2 (p :: l).length (HC (p :: l)),Bk pre] [(0,.ar 1 16 fun j=>W (g j))] 1 (Q3 (Ah (dg Dg.zero) (.int .i64 3)) [(0,.ar 1 16 fun j=>W (g j))] 1):=by
 have hD:=Aom ok.s g pc xt pre ⟨root,p :: l,pre⟩ hpc
 have e0:((0:Int) < ((l.length + 1:Nat):Int))=True:=eq_true Aa
 refine Ab ok.k242 rfl fun x hx=>?_
 refine es 2000 ?_;(simp only [Ao8,Aox,hdR,Bk,EE,seval])
 have zz:=Bb @hdR.eq_1 @dg.eq_1;refine G0 (Akh ok.s.w g pc false xt) ?_
 (simp only [LZ,seval])
 have zz:=@dg.eq_1;refine G0 (Akb ok.s.w.b root (DT g pc false xt)) ?_
 (simp only [EE,NM,decide_true,seval])
 have zz:=GM @hdR.eq_1 @dsH.eq_1 @ckD.eq_1 VS @J3;refine Bw [353,433] [353,433] (hD) ?_
 (simp only [hdR,dsH,ckD,Ake,EE,List.length_cons,e0,seval])
 have zz:=C4 @dg.eq_1 @LM @J3;exact Bf hx [0] ⟨rfl,rfl,rfl⟩
def dsW (c:Ck) (y:Int) (g:Nat→BitVec 64):Hp:=[(0,Alw c y),(1,.ar 1 16 fun j=>W (g j))]
theorem Anh (ok:OkRV M) (root:Dg) (p:Pf) (l:List Pf) (pre:Pr) (g:Nat→BitVec 64) (pc xt:BitVec 64) (hpc:¬ 8192#64≤pc) (hp:p.p.length=13) (hf:¬ C1 pc.toNat (BC p.v) p.p 13=root) :
 Ag M 349 [.ptr 0 [],hdS pc false xt,Bk pre] (dsH ⟨root,p :: l,pre⟩ g) 2 (Q3 (hdS pc false xt) (dsW ⟨root,l,pre⟩ 31 g) 2):=by
 have hR:=Anc ok.s root p l pre pc hpc hp hf
 refine Ab ok.s.k349 rfl fun x hx=>?_
 refine es 2000 ?_;(simp only [Am4,Amu,hdR,Bk,dsH,hpc,LZ,seval])
 have zz:=Ka @ckD.eq_1 @Alw.eq_1 @dg.eq_1 Fs;refine Bw [0] [0] (hR) ?_
 (simp only [Alw,Ake,EE,seval])
 have zz:=@AS.eq_1;refine Kb (Akd ok.s.r.rp 0#64 Am) ?_
 (simp only [AS,Alw,LZ,seval])
 have zz:=GM @hdR.eq_1 @dsW.eq_1 @Alw.eq_1 @Be @dg.eq_1;exact Bf hx [0,1] ⟨rfl,rfl,rfl⟩
theorem Amc (ok:OkRV M) (root:Dg) (g:Nat→BitVec 64) (pc xt:BitVec 64) (p:Pf) (l:List Pf) (pre:Pr) (hpc:¬ 8192#64≤pc) (hp:p.p.length=13) (hf:¬ C1 pc.toNat (BC p.v) p.p 13=root) :
 Ag M 242 [dg (Ch root (DT g pc false xt)),dg root,hdR (.sl 0 [] 0 16 1) pc false xt,.lst 2 (p :: l).length (HC (p :: l)),Bk pre] [(0,.ar 1 16 fun j=>W (g j))] 1 (Q3 (Ah (dg Dg.zero) (.int .i64 31)) [(0,.ar 1 16 fun j=>W (g j))] 1):=by
 have hD:=Anh ok root p l pre g pc xt hpc hp hf
 refine Ab ok.k242 rfl fun x hx=>?_
 refine es 2000 ?_;(simp only [Ao8,Aox,hdR,Bk,EE,seval])
 have zz:=Bb @hdR.eq_1 @dg.eq_1;refine G0 (Akh ok.s.w g pc false xt) ?_
 (simp only [LZ,seval])
 have zz:=@dg.eq_1;refine G0 (Akb ok.s.w.b root (DT g pc false xt)) ?_
 (simp only [EE,NM,decide_true,seval])
 have zz:=aq7 @hdR.eq_1 @dsH.eq_1 @dsW.eq_1 @ckD.eq_1 @Alw.eq_1 VS @J3;refine Bw [353,433] [353,433] (hD) ?_
 (simp only [hdR,dsW,Alw,Ake,EE,List.length_cons,seval])
 have zz:=C4 @dg.eq_1 @LM @J3;exact Bf hx [0] ⟨rfl,rfl,rfl⟩
structure OkV9 (M:Seat):Prop where
 k144:Au M 144 Asy=true
 k272:Au M 272 Aqv=true
def twL:Nat→V
 | 0=>.nils
 | i + 1=>.sl 3 [] 0 (i + 1) 2
def twH (l:List Pf):Nat→Hp
 | 0=>[]
 | i + 1=>[(3,.ar 2 (i + 1) (HC l))]
def twN:Nat→Nat
 | 0=>3
 | _ + 1=>4
def vsF (T:V) (l:List Pf) (i:Nat) (p:List Dg) (j:Nat):List (Nat × V):=[(2,.ptr 0 []),(3,.ptr 1 []),(4,.ptr 2 []),(5,.int .i64 0),(6,T),(9,.ptr 4 []),(13,.lst 2 l.length (HC l)),(14,.int .i64 l.length),(15,.int .i64 i),(23,.lst 32 p.length (Fk p)),(24,.int .i64 p.length),(25,.int .i64 j)]
def vsH (X:V) (claim root:Dg) (g:Nat→BitVec 64) (pc:BitVec 64) (hh:Bool) (xt:BitVec 64) (l:List Pf) (pre:Pr) (u:BitVec 64) (p:List Dg) (j:Nat):Hp:=[(0,dg claim),(1,BI root ⟨g,pc,hh,xt⟩ l pre),(2,dg Dg.zero),(3,X),(4,.st 2 (.fcons 0 (W u) (.fcons 1 (.sl 5 [] 0 j 32) .fnil))),(5,.ar 32 j (Fk p))]
theorem Ak9 {M:Seat} (ok:OkV9 M) (claim root:Dg) (h:Hd) (l:List Pf) (hl:l.length≤1000) (hp:∀ i,(l.getD i default).p.length≤13) (pre:Pr) (d:Dg) (z:Int)
 (hV:Ag M 242 [dg claim,dg root,hdR (.sl 0 [] 0 16 1) h.pc h.hl h.xt,.lst 2 l.length (HC l),Bk pre] [(0,.ar 1 16 fun j=>W (h.g j))] 1 (Q3 (Ah (dg d) (.int .i64 z)) [(0,.ar 1 16 fun j=>W (h.g j))] 1)) :
 Ag M 144 [dg claim,BI root h l pre] [] 0 (Q3 (Ah (dg d) (.int .i64 z)) [] 0):=by
 obtain ⟨g,pc,hh,xt⟩:=h
 have hH:=Ane ok.k272 root ⟨g,pc,hh,xt⟩ l pre
 simp only [hdR,BI,Hd.v,AM,Lap] at hH
 refine Ab ok.k144 rfl fun x hx=>?_
 refine es 2000 ?_;(simp only [Asy,Asn,BI,Hd.v,AM,EE,Nat.testBit,List.map_nil,List.map_cons,B3,seval])
 refine An (σ:=Nat) (fun i=>i≤l.length) (fun i=>fr 52 [(2,.ptr 0 []),(3,.ptr 1 []),(4,.ptr 2 []),(5,.int .i64 0),(6,twL i),(13,.lst 2 l.length (HC l)),(14,.int .i64 l.length),(15,.int .i64 i)])
  (fun i=>[(0,dg claim),(1,BI root ⟨g,pc,hh,xt⟩ l pre),(2,dg Dg.zero)] ++ twH l i) twN (fun i=>l.length - i) 0 Aa ?_ ?_
 ·refine Ao.fr [0,16,32] [] hx AQ Am ?_ ?_
  ·simp only [twL,Be,LY,seval]
  ·simp only [twH,BI,Hd.v,AM,VS,List.append_nil,Fz,seval]
 ·intro i hi
  by_cases hin:i=l.length
  ·have d0:((i:Int) < (i:Int))=False:=eq_false Aa
   rw [← hin] at hV ⊢
   refine es 2000 ?_
   cases i with
   | zero =>
     (simp only [twL.eq_1,twH.eq_1,twN.eq_1,BI,Hd.v,CR,hdR,Bk,List.append_nil,B3,Int.natCast_zero,seval])
     have zz:=Bb VS @J3;refine ofY (hH) ?_
     (simp only [hdR,LZ,seval])
     have zz:=C4 @hdR.eq_1 VS @J3;refine omY [243] (hV) ?_
     (simp only [NC,seval])
     have zz:=Bb @dg.eq_1 @J3;exact Bf hx [] ⟨rfl,rfl,rfl⟩
   | succ i =>
     (simp only [d0,twL.eq_2,twH.eq_2,twN.eq_2,BI,Hd.v,CR,hdR,Bk,B3,seval])
     have zz:=Bb VS @J3;refine ofY (hH) ?_
     (simp only [hdR,LZ,seval])
     have zz:=C4 @hdR.eq_1 VS @J3;refine omY [244] (hV) ?_
     (simp only [NC,seval])
     have zz:=Bb @dg.eq_1 @J3;exact Bf hx [] ⟨rfl,rfl,rfl⟩
  ·have w0:IntKind.i64.wrap ((i:Int) + 1)=((i + 1:Nat):Int):=AZ
   have d0:((i:Int) < (l.length:Int))=True:=eq_true Aa
   have z0:((0:Int) < (l.length:Int))=True:=eq_true Aa
   have z1:IntKind.i64.wrap 1=1:=rfl
   have hP:=hp i
   obtain ⟨⟨u,p⟩,e1⟩:∃ P,l.getD i default=P:=⟨_,rfl⟩
   have e2:HC l i = .st 2 (.fcons 0 (W u) (.fcons 1 (.lst 32 p.length (Fk p)) .fnil)):=by rw [HC,e1];rfl
   rw [e1] at hP
   dsimp only at hP
   clear e1 hV
   by_cases hz:p.length=0
   ·rw [hz] at e2
    rcases i with _ | i
    all_goals
     refine es 2000 ?_
     (simp only [d0,z0,e2,twL.eq_1,twH.eq_1,twN.eq_1,twL.eq_2,twH.eq_2,twN.eq_2,B3,List.append_nil,LZ,seval])
     repeat refine sd ?_
     refine AW ?_
     refine es 2000 ?_
     (simp only [w0,z1,LZ,seval])
     repeat refine sd ?_
     first | refine ⟨i + 1 + 1,by omega,by omega,?_⟩ | refine ⟨0 + 1,by omega,by omega,?_⟩
     simp only [twL.eq_2,twH.eq_2,twN.eq_2]
     first | (have _:=i;refine Ao.fr [0,1,2,292] [] hx AQ Am ?_ ?_) | refine Ao.fr [0,1,2,291] [] hx AQ Am ?_ ?_
     ·simp only [Be,Int.cast_ofNat_Int,LY,seval]
     ·simp only [BI,Hd.v,AM,hdR,VS,Fz,seval]
      intro j hj
      first
      | (have _ := i
         by_cases h:j < i + 1
         ·rw [if_pos h];exact Q5 _ _ _ _
         ·obtain rfl:j=i + 1:=Aa
          rw [if_neg h,if_pos (Nat.sub_self _),e2];simp only [LY,seval])
      | (obtain rfl : j = 0 := by omega
         simp only [if_true,e2,LY,seval])
   ·rcases i with _ | i
    all_goals
     refine es 2000 ?_
     (simp only [d0,z0,e2,twL.eq_1,twH.eq_1,twN.eq_1,twL.eq_2,twH.eq_2,twN.eq_2,B3,List.append_nil,LZ,seval])
     repeat refine sd ?_
     refine AW ?_
     refine es 2000 ?_
     have q0:(0 < (p.length:Int))=True:=eq_true Aa
     (simp only [q0,z1,LZ,seval])
     repeat refine sd ?_
     first
     | refine An (σ:=Nat) (fun j=>1≤j∧j≤p.length) (fun j=>fr 52 (vsF (.sl 3 [] 0 (i + 1) 2) l (i + 1) p j)) (fun j=>vsH (.ar 2 (i + 1) (HC l)) claim root g pc hh xt l pre u p j) (fun _=>6) (fun j=>p.length - j) 1 ⟨by omega,by omega⟩ ?_ ?_
     | refine An (σ:=Nat) (fun j=>1≤j∧j≤p.length) (fun j=>fr 52 (vsF .nils l 0 p j)) (fun j=>vsH (.st 2 (.fcons 0 (W u) (.fcons 1 (.lst 32 p.length (Fk p)) .fnil))) claim root g pc hh xt l pre u p j) (fun _=>6) (fun j=>p.length - j) 1 ⟨by omega,by omega⟩ ?_ ?_
     ·first | (have _:=i;refine Ao.fr [0,1,2,3,132,372] [] hx AQ Am ?_ ?_) | refine Ao.fr [0,1,2,51,131,371] [] hx AQ Am ?_ ?_
      ·simp only [vsF,Be,Int.cast_ofNat_Int,Fk,dg,LY,seval]
      ·simp only [vsH,BI,Hd.v,AM,hdR,VS,Fk,Fz,seval]
       intro j hj
       obtain rfl:j=0:=Aa
       simp only [if_true,dg,LY,seval]
     ·rintro j ⟨h1,hj⟩
      refine es 2000 ?_
      by_cases hjn:j=p.length
      ·subst hjn
       have d1:((p.length:Int) < (p.length:Int))=False:=eq_false Aa
       (simp only [vsF,vsH,d1,w0,z1,LZ,seval])
       repeat refine sd ?_
       first | refine ⟨i + 1 + 1,by omega,by omega,?_⟩ | refine ⟨0 + 1,by omega,by omega,?_⟩
       simp only [twL.eq_2,twH.eq_2,twN.eq_2]
       refine Ao.fr [0,1,2,70] [5] hx AQ Am ?_ ?_
       ·simp only [Be,Int.cast_ofNat_Int,LY,seval]
       ·simp only [BI,Hd.v,AM,hdR,VS,Fz,seval]
        intro j hj
        first
        | (have _ := i
           by_cases h:j < i + 1
           ·rw [if_pos h];exact Q5 _ _ _ _
           ·obtain rfl:j=i + 1:=Aa
            rw [if_neg h,if_pos (Nat.sub_self _),e2];simp only [Fk,dg,LY,seval];try rfl)
        | (obtain rfl : j = 0 := by omega
           simp only [if_true,e2,Fk,dg,LY,seval];try rfl)
      ·have d1:((j:Int) < (p.length:Int))=True:=eq_true Aa
       have d2:(j < p.length)=True:=eq_true Aa
       have wj:IntKind.i64.wrap ((j:Int) + 1)=((j + 1:Nat):Int):=AZ
       (simp only [vsF,vsH,d1,d2,wj,LZ,seval])
       repeat refine sd ?_
       refine ⟨j + 1,by omega,by omega,by omega,?_⟩
       refine Ao.fr [0,1,2,3,4,150] [] hx AQ Am ?_ ?_
       ·simp only [vsF,Be,Int.cast_ofNat_Int,Fk,dg,LY,seval]
       ·simp only [vsH,BI,Hd.v,AM,hdR,VS,Fk,Fz,seval]
        intro k hk
        by_cases h:k < j
        ·rw [if_pos h];simp only [LY,seval]
        ·obtain rfl:k=j:=Aa
         rw [if_neg h,if_pos (Nat.sub_self _)];simp only [LY,seval]
variable {M:Seat}
theorem Aoh (ok:OkRS M) (g:Nat→BitVec 64) (pc xt:BitVec 64) (pre:Pr) (c:Ck) (hpc:¬ 8192#64≤pc) (c1:Ck) (w:BitVec 64) (hR:RdR M c pc w c1) (h:Amj w=true) (hop:CP w=1):DsR M g pc false xt pre c (FI g (pF w 52) (g (pF w 48) + g (pF w 44))) (pc + 1#64) false xt c1:=by
 have c1:((1:Nat):Int)=1:=rfl
 have hv:Ag M 90 [.int .i64 1,W (g (pF w 48)),W (g (pF w 44)),W (g (pF w 40))] [] 0 (Q3 (Ah (W (g (pF w 48) + g (pF w 44))) (.int .i64 0)) [] 0):=by
  refine Ab ok.r.x.k90 rfl fun x hx=>?_
  refine es 2000 ?_;(simp only [f90,c90,LZ,seval])
  have zz:=@Ah.eq_1;exact Bf hx [] ⟨rfl,rfl,rfl⟩
 refine Ab ok.k349 rfl fun x hx=>?_
 have a1:=A5 w 52
 have a2:=A5 w 48
 have a3:=A5 w 44
 have a4:=A5 w 40
 refine es 2000 ?_;(simp only [Am4,Amu,hdR,Bk,dsH,hpc,LZ,seval])
 have zz:=C4 @ckD.eq_1 @dg.eq_1 Fs;refine Bw [0] [0] (hR) ?_
 (simp only [ckD,Ake,EE,seval])
 have zz:=La9;refine Kb (Akd ok.r.rp w h) ?_
 (simp only [La9,Amk,ckD,dg,hop,c1,LZ,seval])
 repeat refine sd ?_
 refine Bq (hv) ?_
 (simp only [AH,La9,Amk,ckD,dg,seval])
 repeat refine sd ?_
 have zz:=GM @hdR.eq_1 @ckD.eq_1 @Be @dg.eq_1 Zh;exact Bf hx [0,1] ⟨rfl,rfl,rfl⟩
theorem Ang (ok:OkRS M) (g:Nat→BitVec 64) (pc xt:BitVec 64) (root:Dg) (p:Pf) (l:List Pf) (pre:Pr) (h4:op4 p.v) (hpc:¬ 8192#64≤pc) (h1:Hd) (s1:Ck) (hq:nx ckM ⟨g,pc,false,xt⟩ ⟨root,p :: l,pre⟩=(h1,none,s1)) :
 DsR M g pc false xt pre ⟨root,p :: l,pre⟩ h1.g h1.pc h1.hl h1.xt s1:=by
 rw [nx] at hq
 dsimp only at hq
 cases he:(ckM.rd ⟨root,p :: l,pre⟩ pc).2.1 with
 | some e=>rw [he] at hq;cases hq
 | none =>
   rw [he] at hq
   dsimp only at hq
   obtain ⟨hR,hpre⟩:=Aq2 ok ⟨root,p :: l,pre⟩ pc hpc he
   clear he
   have ew:(ckM.rd ⟨root,p :: l,pre⟩ pc).1=p.v:=rfl
   rw [ew] at hq hR
   generalize p.v=w at hq hR h4
   generalize (ckM.rd ⟨root,p :: l,pre⟩ pc).2.2=s' at hq hR hpre
   generalize (⟨root,p :: l,pre⟩:Ck)=s at *
   unfold Wy at hq
   dsimp only at hq
   obtain ⟨q0,h4⟩:=h4
   obtain ⟨h35,h2⟩:=(QK w).1 q0
   have hi:Amj w=true:=by simp only [Amj,decide_eq_true_eq];exact ⟨h35,h2⟩
   rw [if_neg (by rw [q0];decide),if_neg Aa] at hq
   rcases h4 with q1 | q1 | q1 | q1
   ·rw [if_pos Aa,q1] at hq
    cases hq
    exact Aoh ok g pc xt pre s hpc s1 w hR hi q1
   ·rw [if_neg Aa,if_pos q1] at hq
    cases hq
    exact Aow ok g pc xt pre s hpc s1 w hR hi q1
   ·rw [if_neg Aa,if_neg Aa,if_pos (.inr q1)] at hq
    by_cases q5:8192#64≤g (pF w 48) + BitVec.ofInt 64 (pN w)
    ·rw [if_pos q5] at hq
     cases hq
     exact Alk ok g pc xt pre s hpc s1 w hR hi q1 q5
    rw [if_neg q5,if_neg Aa] at hq
    injection hq with e1 e2
    have e3:(ckM.wr s' (g (pF w 48) + BitVec.ofInt 64 (pN w)) (g (pF w 44))).1=none:=by rw [e2]
    obtain ⟨⟨u,hR2⟩,-⟩:=Aqr ok s' _ _ q5 e3
    rw [show (ckM.wr s' (g (pF w 48) + BitVec.ofInt 64 (pN w)) (g (pF w 44))).2=s1 by rw [e2]] at hR2
    subst e1
    exact Ano ok g pc xt pre s hpc s' w hR hi q1 q5 u s1 hR2
   ·rw [if_neg Aa,if_neg Aa,if_neg Aa,if_pos Aa] at hq
    obtain ⟨ga,hga⟩:∃ ga,g (pF w 48)=ga:=⟨_,rfl⟩
    obtain ⟨to,hto⟩:∃ to,BitVec.ofInt 64 (pN w)=to:=⟨_,rfl⟩
    rw [hto,q1] at hq
    injection hq with hj e2
    injection e2 with _ e3
    subst e3
    have hs':¬ (((29:Nat)=30∧¬ (⟨g,pc,false,xt⟩:Hd).g (pF w 48)=0#64) ∨ ((29:Nat)=31∧(⟨g,pc,false,xt⟩:Hd).g (pF w 48)=0#64)):=Aa
    by_cases hw:8192#64≤to
    ·rw [Are _ _ _ _ _ _ hs' rfl hw] at hj
     subst hj
     exact Anm ok g pc xt pre s hpc s' w hR hi to ga hto hga (.inl ⟨q1,hw⟩)
    ·rw [Apl _ _ (pF w 52) _ _ _ hs' rfl hw,if_neg Am] at hj
     subst hj
     exact An0 ok g pc xt pre s hpc s' w hR hi to ga to hto hga hw (.inl ⟨q1,rfl⟩)
theorem Ami (ok:OkRV M) (claim root:Dg) (g:Nat→BitVec 64) (pc xt:BitVec 64) (p:Pf) (l:List Pf) (pre:Pr) (h4:op4 p.v) (hpc:¬ 8192#64≤pc) (d:Dg) (hv:vfy claim root ⟨g,pc,false,xt⟩ (p :: l) pre=(d,none)) :
 Ag M 242 [dg claim,dg root,hdR (.sl 0 [] 0 16 1) pc false xt,.lst 2 (p :: l).length (HC (p :: l)),Bk pre] [(0,.ar 1 16 fun j=>W (g j))] 1 (Q3 (Ah (dg d) (.int .i64 0)) [(0,.ar 1 16 fun j=>W (g j))] 1):=by
 unfold vfy at hv
 dsimp only at hv
 by_cases hc:Ch root (DT g pc false xt)=claim
 case neg=>rw [if_pos hc] at hv;cases hv
 rw [if_neg (fun h=>h hc),if_neg B5,if_neg hpc] at hv
 generalize hq:nx ckM ⟨g,pc,false,xt⟩ ⟨root,p :: l,pre⟩=q at hv
 obtain ⟨⟨g1,pc1,hl1,xt1⟩,e,⟨r1,l1,p1⟩⟩:=q
 cases e with
 | some e=>cases hv
 | none =>
   have hD:=Ang ok.s g pc xt root p l pre h4 hpc _ _ hq
   clear hq h4
   generalize p :: l=l at *
   have hv:vfE ⟨r1,l1,p1⟩ ⟨g1,pc1,hl1,xt1⟩=(d,none):=hv
   unfold vfE at hv
   dsimp only at hv hD
   by_cases h0:l1=[]
   case neg=>rw [if_neg h0] at hv;cases hv
   subst h0
   rw [if_pos rfl] at hv
   injection hv with hd _
   subst hc hd
   refine Ab ok.k242 rfl fun x hx=>?_
   refine es 2000 ?_;(simp only [Ao8,Aox,hdR,Bk,EE,seval])
   have zz:=Bb @hdR.eq_1 @dg.eq_1;refine G0 (Akh ok.s.w g pc false xt) ?_
   (simp only [LZ,seval])
   have zz:=@dg.eq_1;refine G0 (Akb ok.s.w.b root (DT g pc false xt)) ?_
   (simp only [EE,NM,decide_true,seval])
   have zz:=GM @hdR.eq_1 @dsH.eq_1 @ckD.eq_1 VS @J3;refine Bw [353,433] [353,433] (hD) ?_
   (simp only [hdR,dsH,ckD,Ake,EE,List.length_nil,seval])
   have zz:=Bb @hdR.eq_1 @dg.eq_1;refine G0 (Akh ok.s.w g1 pc1 hl1 xt1) ?_
   (simp only [EE,seval])
   have zz:=@dg.eq_1;refine G0 (Akb ok.s.w.b r1 (DT g1 pc1 hl1 xt1)) ?_
   (simp only [EE,seval])
   have zz:=C4 @dg.eq_1 @LM @J3;exact Bf hx [0] ⟨rfl,rfl,rfl⟩
def erI (e:Option Int):Int:=e.getD 0
theorem Aoj (ok:OkRV M) (o9:OkV9 M) (root:Dg) (p:Pf) (q:List Pf) (pre:Pr) (g:Nat→BitVec 64) (pc xt:BitVec 64) (h4:op4 p.v) (h1:Hd) (r1:Dg) (p1:Pr) (hq:nx ckM ⟨g,pc,false,xt⟩ ⟨root,p :: q,pre⟩=(h1,none,⟨r1,[],p1⟩))
 (hl:(p :: q).length≤1000) (hp:∀ i,((p :: q).getD i default).p.length≤13) (pc2:BitVec 64) (claim:Dg) :
 Ag M 144 [dg claim,BI root ⟨g,pc2,false,xt⟩ (p :: q) pre] [] 0 (Q3 (Ah (dg (vfy claim root ⟨g,pc2,false,xt⟩ (p :: q) pre).1) (.int .i64 (erI (vfy claim root ⟨g,pc2,false,xt⟩ (p :: q) pre).2))) [] 0):=by
 obtain ⟨p',q',e,h13,H⟩:=Al7 root (p :: q) pre g pc xt h1 r1 p1 hq
 cases e
 obtain ⟨a1,a2,a3,a4⟩:=H pc2 claim
 refine Ak9 o9 claim root ⟨g,pc2,false,xt⟩ (p :: q) hl hp pre _ _ ?_
 by_cases hc:Ch root (DT g pc2 false xt)=claim
 ·by_cases h8:8192#64≤pc2
  ·rw [a2 hc h8]
   subst hc
   exact Alz ok root g pc2 xt p q pre h8
  ·by_cases hf:C1 pc2.toNat (BC p.v) p.p 13=root
   ·obtain ⟨d,hd⟩:=a4 hc h8 hf
    rw [hd]
    exact Ami ok claim root g pc2 xt p q pre h4 h8 d hd
   ·rw [a3 hc h8 hf]
    subst hc
    exact Amc ok root g pc2 xt p q pre h8 h13 hf
 ·rw [a1 hc]
  exact Al2 ok claim root ⟨g,pc2,false,xt⟩ (p :: q) pre hc
end Mv
