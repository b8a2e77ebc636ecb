/- A part. -/
import Derived.Test.YtgeionenpaopaaaGreatDoorAF
import Derived.Laws.StructEq
import Derived.ChangeKeysEq
set_option linter.all false
set_option maxHeartbeats 4000000
namespace Mv
open Go
variable {M:Seat}
def ES.ht:ES→Nat
 | .cons _ _ _ s r=>max s.ht r.ht
 | .st fs=>fs.ht + 1
 | .ar _ _ _ s=>s.ht + 1
 | .iface _=>2
 | _=>1
def M9:ES→Bool
 | .st _=>true
 | .ar ..=>true
 | _=>false
def Et:ES→Bool
 | .nil | .cons ..=>true
 | _=>false
def BE (M:Seat):ES→TypeId→List Field→Bool
 | .int,t,_=>(match M.P.underlying t with | some (.int _)=>true | _=>false)
 | .bool,t,_=>(match M.P.underlying t with | some .bool=>true | _=>false)
 | .str,t,_=>(match M.P.underlying t with | some .string=>true | _=>false)
 | .ptr,t,_=>(match M.P.underlying t with | some (.pointer _)=>true | _=>false)
 | .nils k,t,_=>(match k,M.P.underlying t with | 0,some (.slice _) | 1,some (.map _ _) | 2,some (.func _ _ _)=>true | _,_=>false)
 | .iface ts,t,_=>(match M.P.underlying t with | some (.interface _)=>true | _=>false) &&
  ts.all (fun a=>(match M.P.info? (M.τ a) with | some i=>i.comparable | none=>false) && (match M.P.underlying (M.τ a) with | some (.int _)=>true | _=>false)) &&
  ts.all (fun a=>ts.all (fun b=>a == b || M.τ a != M.τ b))
 | .nil,_,fl=>fl.isEmpty
 | .cons o sz agg s r, t, fl => (match fl with
   | f :: fl' => (!Et s && Et r) && ((f.name != "_") && f.offset == o && FD M f.type == some sz && H3 M f.type == some agg) && BE M s f.type [] && BE M r t fl'
   | []=>false)
 | .st fs,t,_=>(match M.P.underlying t with | some (.struct fl)=>Et fs && (!M.P.stoodInHeld t) && BE M fs t fl.toList | _=>false)
 | .ar n sz agg s,t,_=>(match M.P.underlying t with | some (.array m e)=>!Et s && m == n && FD M e == some sz && H3 M e == some agg && BE M s e [] | _=>false)
def isC:Operand→Bool
 | .const _=>true
 | _=>false
def XC (M:Seat) (c:Bool) (s:ES) (t:TypeId) (x y:Operand):Bool :=
 BE M s t [] && !Et s && decide (s.ht≤100) && (!c || isC x || isC y) && (!M9 s || !M.P.eqGuardType M.P.depth t)
theorem DO {e:Env} {t:TypeId} {agg:Bool} {sz:Nat} (hs:FD M t=some sz) (ha:H3 M t=some agg) {cs:List Value} {o:Nat} {v:V} (hsol:v.solid=true) (hsz:v.size=sz) (hag:v.isAgg=agg) (hl:o + sz≤cs.length) (hR:R e v ((cs.drop o).take sz)) :
 ∃ x,(part t cs.toArray o).run M.P e.w = .ok x e.w∧RS e v x:=by
 obtain ⟨k1,k2⟩:=DH (c:=cs.toArray) (o:=o) hsol hsz hag OG (by simpa using hR);exact ⟨_,Ko hs ha e.w OG k1,(Bb hsol).1 k2⟩
theorem Pg {t:TypeId} {n:Nat} (h:FD M t=some n):∃ i,M.P.info? t=some i∧M.P.cellsOf t=n:=by
 unfold FD at h;cases hi:M.P.info? t with
 | none=>simp [hi] at h
 | some i=>simp [hi] at h;exact ⟨i,rfl,by simp [Program.cellsOf,hi,h]⟩
theorem Ib {e:Env} (hτ:e.τ=M.τ) (c:Bool):∀ (s:ES) (t:TypeId) (fl:List Field) (a b:V) (d:Nat),BE M s t fl=true→AQ c s a b →
 (Et s=false→∀ x y,RS e a x→RS e b y→(Op.equalIn (s.ht + d) t x y).run M.P e.w = .ok (AX s a b) e.w) ∧
 (Et s=true→∀ xs ys:List Value,R e a xs→R e b ys→(Op.eqFields (s.ht + d) xs.toArray ys.toArray fl).run M.P e.w = .ok (AX s a b) e.w)
 | .int,t,fl,a,b,d,hc,hp=>by
  refine ⟨fun _ x y hx hy=>?_,fun h=>by cases h⟩;cases a <;> cases b <;> simp only [AQ] at hp;simp only [RS,V.isAgg,R,E0] at hx hy;subst hx;subst hy;subst hp;simp only [BE] at hc;split at hc
  ·rename_i k hu;simp only [ES.ht,Nat.add_comm 1 d,Op.equalIn,EP,run_underlying hu,if_true,AX];rfl
  ·cases hc
 | .bool,t,fl,a,b,d,hc,hp=>by
  refine ⟨fun _ x y hx hy=>?_,fun h=>by cases h⟩;cases a <;> cases b <;> simp only [AQ] at hp;simp only [RS,V.isAgg,R,E0] at hx hy;subst hx;subst hy;simp only [BE] at hc;split at hc
  ·rename_i hu;simp only [ES.ht,Nat.add_comm 1 d,Op.equalIn,EP,run_underlying hu,AX];rfl
  ·cases hc
 | .str,t,fl,a,b,d,hc,hp=>by
  refine ⟨fun _ x y hx hy=>?_,fun h=>by cases h⟩;cases a <;> cases b <;> simp only [AQ] at hp;simp only [RS,V.isAgg,R,E0] at hx hy;subst hx;subst hy;simp only [BE] at hc;split at hc
  ·rename_i hu;simp only [ES.ht,Nat.add_comm 1 d,Op.equalIn,EP,run_underlying hu,AX]
  ·cases hc
 | .ptr,t,fl,a,b,d,hc,hp=>by
  refine ⟨fun _ x y hx hy=>?_,fun h=>by cases h⟩;simp only [BE] at hc;split at hc;case h_2=>cases hc
  rename_i el hu;have e1:ES.ptr.ht + d=d + 1:=by simp [ES.ht,Nat.add_comm]
  rw [e1];cases a <;> cases b <;> simp only [AQ] at hp <;> simp only [RS,V.isAgg,R,E0] at hx hy;case nilp.nilp=>subst hx;subst hy;simp [Op.equalIn,run_underlying hu,AX]
  case nilp.ptr=>obtain ⟨_,rfl⟩:=hy;subst hx;simp [Op.equalIn,run_underlying hu,AX]
  case ptr.nilp=>obtain ⟨_,rfl⟩:=hx;subst hy;simp [Op.equalIn,run_underlying hu,AX]
  case nilp.imm=>obtain ⟨_,_,_,_,_,rfl,_⟩:=hy;subst hx;simp [Op.equalIn,run_underlying hu,AX]
  case imm.nilp=>obtain ⟨_,_,_,_,_,rfl,_⟩:=hx;subst hy;simp [Op.equalIn,run_underlying hu,AX]
 | .nils k,t,fl,a,b,d,hc,hp=>by
  refine ⟨fun _ x y hx hy=>?_,fun h=>by cases h⟩;have e1:(ES.nils k).ht + d=d + 1:=by simp [ES.ht,Nat.add_comm]
  rw [e1];simp only [AQ] at hp;split at hp <;> simp only [BE] at hc <;> (try exact hp.elim) <;> simp only [RS,V.isAgg,R,E0] at hx hy <;> split at hc <;> (try cases hc) <;> (try (exfalso;omega)) <;> rename_i hu
  ·subst hx;subst hy;simp [Op.equalIn,run_underlying hu,AX]
  ·subst hx;subst hy;simp [Op.equalIn,run_underlying hu,AX]
  ·obtain ⟨_,rfl⟩:=hy;subst hx;simp [Op.equalIn,run_underlying hu,AX]
  ·obtain ⟨_,rfl⟩:=hx;subst hy;simp [Op.equalIn,run_underlying hu,AX]
  ·subst hx;subst hy;simp [Op.equalIn,run_underlying hu,AX]
  ·obtain ⟨_,rfl,_⟩:=hy;subst hx;unfold P7;split <;> (try split) <;> simp [Op.equalIn,run_underlying hu,AX]
  ·obtain ⟨_,rfl,_⟩:=hx;subst hy;unfold P7;split <;> (try split) <;> simp [Op.equalIn,run_underlying hu,AX]
  ·obtain ⟨_,b,cap,rfl,h1,h2,_⟩:=hy;rcases h1 with h1 | rfl
   ·omega
   ·subst hx;simp [Op.equalIn,run_underlying hu,AX]
  ·obtain ⟨_,b,cap,rfl,h1,h2,_⟩:=hx;rcases h1 with h1 | rfl
   ·omega
   ·subst hy;simp [Op.equalIn,run_underlying hu,AX]
  ·obtain ⟨b,cap,rfl,h1,h2⟩:=hy;obtain ⟨_,_,_,_,_,rfl,_⟩:=h2 hp;subst hx;simp [Op.equalIn,run_underlying hu,AX]
  ·obtain ⟨b,cap,rfl,h1,h2⟩:=hx;obtain ⟨_,_,_,_,_,rfl,_⟩:=h2 hp;subst hy;simp [Op.equalIn,run_underlying hu,AX]
  ·obtain ⟨_,_,_,rfl,_⟩:=hx;subst hy;simp [Op.equalIn,run_underlying hu,AX]
 | .iface ts,t,fl,a,b,d,hc,hp=>by
  refine ⟨fun _ x y hx hy=>?_,fun h=>by cases h⟩;simp only [BE,Lc6] at hc;obtain ⟨⟨hc,hts⟩,hdis⟩:=hc;split at hc;case h_2=>cases hc
  rename_i ms hu;have e1:(ES.iface ts).ht + d=(d + 1) + 1:=by simp [ES.ht];omega
  rw [e1];cases a <;> cases b <;> (try simp only [AQ] at hp) <;> simp only [RS,V.isAgg,R,E0] at hx hy;case nili.nili=>subst hx;subst hy;simp [Op.equalIn,run_underlying hu,AX]
  case nili.ifc=>obtain ⟨_,rfl,_⟩:=hy;subst hx;simp [Op.equalIn,run_underlying hu,AX]
  case ifc.nili=>obtain ⟨_,rfl,_⟩:=hx;subst hy;simp [Op.equalIn,run_underlying hu,AX]
  case ifc.ifc t1 v1 t2 v2 =>
   cases v1 <;> cases v2 <;> simp only [AQ] at hp;rename_i k1 n1 k2 n2;obtain ⟨m1,m2,rfl⟩:=hp;simp only [V.isAgg,R,E0] at hx hy;obtain ⟨_,rfl,_,rfl⟩:=hx;obtain ⟨_,rfl,_,rfl⟩:=hy;rw [hτ];have hd:=hdis t1 m1 t2 m2;simp only [Bool.or_eq_true,beq_iff_eq,bne_iff_ne,ne_eq] at hd;by_cases htt:t1=t2
   ·subst htt;have h1:=hts t1 m1;split at h1;case h_2=>exact absurd h1.1 BF
    rename_i i hi;obtain ⟨h1,h2⟩:=h1;split at h2;case h_2=>cases h2
    rename_i kk hk;simp only [Op.equalIn,EP,run_underlying hu,ne_eq,Lb9,typeInfo,run_program,hi,h1,Bool.not_true,Bool.false_eq_true,run_underlying hk,AX,beq_self_eq_true,Bool.true_and];rfl
   ·have hne:M.τ t1 ≠ M.τ t2:=hd.resolve_left htt;simp only [Op.equalIn,EP,run_underlying hu,ne_eq,hne,not_false_eq_true,if_true,AX];simp [htt]
 | .nil,t,fl,a,b,d,hc,hp=>by
  refine ⟨fun h=>(by cases h),fun _ xs ys hx hy=>?_⟩;simp only [BE,List.isEmpty_iff] at hc;subst hc;simp [Op.eqFields,AX]
 | .cons o sz agg s r,t,fl,a,b,d,hc,hp=>by
  refine ⟨fun h=>(by cases h),fun _ xs ys hx hy=>?_⟩;cases fl with
  | nil=>simp [BE] at hc
  | cons f fl' =>
    simp only [BE,Bool.and_eq_true,bne_iff_ne,ne_eq,beq_iff_eq] at hc;obtain ⟨⟨⟨⟨hfs,hfr⟩,⟨⟨hn,ho⟩,hs⟩,ha⟩,hcs⟩,hcr⟩:=hc;have hfs:Et s=false:=by simpa using hfs
    simp only [AQ] at hp;obtain ⟨⟨⟨h1,h2⟩,⟨a1,a2,a3⟩,⟨b1,b2,b3⟩,hps⟩,hpr⟩:=hp;obtain ⟨g1,g2⟩:=GW hx h1;obtain ⟨g3,g4⟩:=GW hy h2;rw [a2] at g1 g2;rw [b2] at g3 g4;subst ho;obtain ⟨x,r1,r2⟩:=DO hs ha a1 a2 a3 g1 g2;obtain ⟨y,r3,r4⟩:=DO hs ha b1 b2 b3 g3 g4;have hle1:s.ht≤max s.ht r.ht:=Nat.le_max_left _ _;have hle2:r.ht≤max s.ht r.ht:=Nat.le_max_right _ _;have q1:=(Ib hτ c s f.type [] _ _ (max s.ht r.ht - s.ht + d) hcs hps).1 hfs x y r2 r4;have q2:=(Ib hτ c r t fl' a b (max s.ht r.ht - r.ht + d) hcr hpr).2 hfr xs ys hx hy;have e1:s.ht + (max s.ht r.ht - s.ht + d)=max s.ht r.ht + d:=Aa;have e2:r.ht + (max s.ht r.ht - r.ht + d)=max s.ht r.ht + d:=Aa;rw [e1] at q1;rw [e2] at q2;simp only [ES.ht,Op.eqFields,hn,ne_eq,not_false_eq_true,if_true,QP,r1,r3,q1,AX];cases hv:AX s (a.fget f.offset) (b.fget f.offset) with
    | false=>simp
    | true=>simpa using q2
 | .st fs,t,fl,a,b,d,hc,hp=>by
  refine ⟨fun _ x y hx hy=>?_,fun h=>by cases h⟩;cases a <;> cases b <;> simp only [AQ] at hp;simp only [BE] at hc;split at hc;case h_2=>cases hc
  rename_i fl2 hu;simp only [X5] at hc;obtain ⟨⟨hfs,hst⟩,hc⟩:=hc;simp only [RS,V.isAgg,R] at hx hy;obtain ⟨xs,rfl,_,_,hx⟩:=hx;obtain ⟨ys,rfl,_,_,hy⟩:=hy;have hfo:M.P.fieldsOf t=fl2:=by simp [Program.fieldsOf,hu]
  have e1:(ES.st fs).ht + d=fs.ht + d + 1:=by simp [ES.ht];omega
  rw [e1,run_equalIn_struct e.w (fs.ht + d) t _ _ (by rw [hfo];exact hu) hst,hfo];exact (Ib hτ c fs t fl2.toList _ _ d hc hp).2 hfs xs ys hx hy
 | .ar n sz agg s,t,fl,a,b,d,hc,hp=>by
  refine ⟨fun _ x y hx hy=>?_,fun h=>by cases h⟩;cases a <;> cases b <;> simp only [AQ] at hp;rename_i sz1 n1 f sz2 n2 g;obtain ⟨⟨rfl,rfl,rfl,rfl⟩,hp⟩:=hp;simp only [BE] at hc;split at hc;case h_2=>cases hc
  rename_i m el hu;simp only [Bool.and_eq_true,beq_iff_eq] at hc;obtain ⟨⟨⟨⟨hfs,rfl⟩,hs⟩,ha⟩,hcs⟩:=hc;have hfs:Et s=false:=by simpa using hfs
  obtain ⟨i,hi,hcells⟩:=Pg hs;simp only [RS,V.isAgg,R] at hx hy;obtain ⟨xs,rfl,hxl,hx⟩:=hx;obtain ⟨ys,rfl,hyl,hy⟩:=hy;have e1:(ES.ar m sz2 agg s).ht + d=s.ht + d + 1:=by simp [ES.ht];omega
  rw [e1,run_equalIn_array e.w (s.ht + d) _ _ hu hi,hcells];simp only [AX];have key:∀ l:List Nat,(∀ j ∈ l,j < m)→(Op.eqItems (s.ht + d) el sz2 xs.toArray ys.toArray l).run M.P e.w = .ok (l.all (fun i=>AX s (f i) (g i))) e.w:=by
   intro l;induction l with
   | nil=>intro _;simp [Op.eqItems]
   | cons j l ih =>
     intro hl;have hj:=hl j BF;obtain ⟨⟨x1,x2⟩,x3⟩:=hx j hj;obtain ⟨⟨y1,y2⟩,y3⟩:=hy j hj;obtain ⟨p1,p2,p3⟩:=hp j hj;have hm:j * sz2 + sz2≤m * sz2:=by
      have:(j + 1) * sz2≤m * sz2:=Nat.mul_le_mul_right _ hj;rw [Nat.add_mul] at this;omega
     obtain ⟨x,r1,r2⟩:=DO hs ha x1 x2 p1 Aa x3;obtain ⟨y,r3,r4⟩:=DO hs ha y1 y2 p2 Aa y3;have q1:=(Ib hτ c s el [] _ _ d hcs p3).1 hfs x y r2 r4;have ih':=ih (fun k hk=>hl k (by simp [hk]));simp only [Op.eqItems,QP,r1,r3,q1,List.all_cons];cases hv:AX s (f j) (g j) with
     | false=>simp
     | true=>simpa using ih'
  exact key _ (fun j hj=>List.mem_range.1 hj)
theorem F3 {P:Program} {w:World} (op:BinOp) (t:TypeId) (x y:Operand) {a b:Value} (h:∀ cs,a ≠ .agg cs) (h2:a = .nilIface→b = .nilIface→isC x=true ∨ isC y=true):(eqGuard op t x y a b).run P w = .ok () w:=by
 have key:(a = .nilIface∧b = .nilIface) ∨ ¬ (a = .nilIface∧b = .nilIface):=Classical.em _;rcases key with ⟨rfl,rfl⟩ | hn
 ·unfold eqGuard;rcases h2 rfl rfl with h3 | h3
  ·cases x <;> simp only [isC,Bool.false_eq_true] at h3;cases op <;> rfl
  ·cases y <;> simp only [isC,Bool.false_eq_true] at h3;cases op <;> cases x <;> rfl
 ·unfold eqGuard;cases a <;> first
   | (exact absurd rfl (h _))
   | (cases b <;> first | (exact absurd ⟨rfl,rfl⟩ hn) | (cases op <;> rfl))
end Mv
namespace Mv
open Go
def Np:Value→Bool
 | .int .. | .float .. | .complex .. | .string _=>false
 | _=>true
theorem WU {neg:Bool} {t:TypeId} {x y:Value} (h:Np x=true):binOp (if neg then .neq else .eql) t x y=(do pure (.bool (neg ^^ (← Op.equal t x y)))):=by
 cases neg <;> cases x <;> simp only [Np,Bool.false_eq_true] at h <;> cases y <;> simp [binOp]
def MB:ES→Bool
 | .str=>true
 | _=>false
def H5:ES→Bool
 | .int | .str | .nil | .cons ..=>false
 | _=>true
theorem Aj1 {s:ES} (h:(H5 s || MB s)=true):H5 s=true ∨ s = .str:=by
 cases s <;> simp_all [H5,MB]
theorem ZA {c:Bool} {e:Env} {s:ES} {a b:V} {x y:Value} (hs:H5 s=true) (hp:AQ c s a b) (hx:RS e a x) (hy:RS e b y) :
 (Np x=true∧(a.solid=true∧b.solid=true))∧((M9 s=false∧(∀ cs,x ≠ .agg cs)∧(x = .nilIface→y = .nilIface→c=true)) ∨ (M9 s=true∧∃ xs ys,x = .agg xs∧y = .agg ys)):=by
 cases s <;> simp only [H5,Bool.false_eq_true] at hs;case bool =>
  simp only [AQ] at hp;split at hp
  ·simp only [RS,V.isAgg,R,E0] at hx hy;subst hx;subst hy;exact ⟨⟨rfl,rfl,rfl⟩,.inl ⟨rfl,by simp,by simp⟩⟩
  ·exact hp.elim
 case ptr =>
  have hxp:(∃ p,x = .pointer p)∧a.solid=true∧b.solid=true:=by
   simp only [AQ] at hp;split at hp <;> (try exact hp.elim) <;> simp only [RS,V.isAgg,R,E0] at hx
   ·exact ⟨⟨_,hx⟩,rfl,rfl⟩
   ·exact ⟨⟨_,hx⟩,rfl,rfl⟩
   ·exact ⟨⟨_,hx.2⟩,rfl,rfl⟩
   ·exact ⟨⟨_,hx⟩,rfl,rfl⟩
   ·obtain ⟨_,_,_,_,_,h,_⟩:=hx;exact ⟨⟨_,h⟩,rfl,rfl⟩
  obtain ⟨⟨p,rfl⟩,h2⟩:=hxp;exact ⟨⟨rfl,h2⟩,.inl ⟨rfl,by simp,by simp⟩⟩
 case iface ts =>
  simp only [AQ] at hp;split at hp <;> (try exact hp.elim) <;> simp only [RS,V.isAgg,R,E0] at hx hy
  ·subst hx;subst hy;exact ⟨⟨rfl,rfl,rfl⟩,.inl ⟨rfl,by simp,fun _ _=>hp⟩⟩
  ·subst hx;obtain ⟨z,rfl,_⟩:=hy;exact ⟨⟨rfl,rfl,rfl⟩,.inl ⟨rfl,by simp,by simp⟩⟩
  ·obtain ⟨z,rfl,_⟩:=hx;exact ⟨⟨rfl,rfl,rfl⟩,.inl ⟨rfl,by simp,by simp⟩⟩
  ·obtain ⟨z,rfl,_⟩:=hx;exact ⟨⟨rfl,rfl,rfl⟩,.inl ⟨rfl,by simp,by simp⟩⟩
 case nils k =>
  have hxp:(Np x=true∧(∀ cs,x ≠ .agg cs)∧x ≠ .nilIface)∧a.solid=true∧b.solid=true:=by
   simp only [AQ] at hp;split at hp <;> (try exact hp.elim) <;> refine ⟨?_,rfl,rfl⟩ <;> simp only [RS,V.isAgg,R,E0] at hx
   ·subst hx;exact ⟨rfl,by simp,by simp⟩
   ·subst hx;exact ⟨rfl,by simp,by simp⟩
   ·subst hx;exact ⟨rfl,by simp,by simp⟩
   ·obtain ⟨_,rfl⟩:=hx;exact ⟨rfl,by simp,by simp⟩
   ·subst hx;exact ⟨rfl,by simp,by simp⟩
   ·subst hx;exact ⟨rfl,by simp,by simp⟩
   ·obtain ⟨_,rfl,_⟩:=hx;unfold P7;split <;> (try split) <;> exact ⟨rfl,by simp,by simp⟩
   ·subst hx;exact ⟨rfl,by simp,by simp⟩
   ·obtain ⟨_,_,_,rfl,_⟩:=hx;exact ⟨rfl,by simp,by simp⟩
   ·subst hx;exact ⟨rfl,by simp,by simp⟩
   ·obtain ⟨_,_,rfl,_⟩:=hx;exact ⟨rfl,by simp,by simp⟩
   ·obtain ⟨_,_,_,rfl,_⟩:=hx;exact ⟨rfl,by simp,by simp⟩
  exact ⟨⟨hxp.1.1,hxp.2⟩,.inl ⟨rfl,hxp.1.2.1,fun h=>absurd h hxp.1.2.2⟩⟩
 case st fs =>
  simp only [AQ] at hp;split at hp
  ·obtain ⟨xs,rfl,_⟩:=hx;obtain ⟨ys,rfl,_⟩:=hy;exact ⟨⟨rfl,rfl,rfl⟩,.inr ⟨rfl,_,_,rfl,rfl⟩⟩
  ·exact hp.elim
 case ar n sz agg s =>
  simp only [AQ] at hp;split at hp
  ·obtain ⟨xs,rfl,_⟩:=hx;obtain ⟨ys,rfl,_⟩:=hy;exact ⟨⟨rfl,rfl,rfl⟩,.inr ⟨rfl,_,_,rfl,rfl⟩⟩
  ·exact hp.elim
theorem W3 {c:Bool} {s:ES} {a b:V} (hs:H5 s=true ∨ s = .str) (hp:AQ c s a b):a.solid=true∧b.solid=true:=by
 cases s <;> simp only [H5,reduceCtorEq,or_false,Bool.false_eq_true,or_self] at hs <;> simp only [AQ] at hp <;> split at hp <;> first
  | exact hp.elim
  | exact ⟨rfl,rfl⟩
theorem Acx {M:Seat} {c0:Ctx} {e:Env} {H:Hp} {A:List V} {a:Act} (hI:Inv M c0 e H) (hA:FR e A a.tmps) {n:Nat} {t:TypeId} {neg c:Bool} {s:ES} {x1 x2:Operand} {y1 y2:X} (hc:XC M c s t x1 x2=true) (htop:H5 s=true ∨ s = .str)
 (h1:A3 M x1 y1=true) (g1:CJ M e y1) (h2:A3 M x2 y2=true) (g2:CJ M e y2) (hp:(Ag A H n (.eq neg c s y1 y2)).pre) :
 Bm M c0 e n (Ag A H n (.eq neg c s y1 y2)) (Sem.run M.P (do pure (Next.value (← (do eqGuard (if neg then .neq else .eql) t x1 x2 (a.eval x1) (a.eval x2);binOp (if neg then .neq else .eql) t (a.eval x1) (a.eval x2))))) e.w):=by
 have v1:=Az hI.φ hA h1 g1;have v2:=Az hI.φ hA h2 g2;simp only [XC,X5,decide_eq_true_eq,Bool.or_eq_true] at hc;obtain ⟨⟨⟨⟨hc1,hc2⟩,hc3⟩,hc4⟩,hc5⟩:=hc;simp only [Ag] at hp ⊢;have hsol:=W3 htop hp;rw [Bb hsol.1] at v1;rw [Bb hsol.2] at v2;refine Ao hI (x:=.bool (neg ^^ AX s (y1.ev A) (y2.ev A))) (AB ?_) rfl (Cu _);rcases htop with htop | rfl
 ·have hrun:=(Ib (hI.τ) c s t [] _ _ (Op.maxDepth - s.ht) hc1 hp).1 hc2 _ _ v1 v2;have e1:s.ht + (Op.maxDepth - s.ht)=Op.maxDepth:=by simp only [Op.maxDepth];omega
  rw [e1] at hrun;obtain ⟨⟨p1,_⟩,p2⟩:=ZA htop hp v1 v2;have hguard:(eqGuard (if neg then .neq else .eql) t x1 x2 (a.eval x1) (a.eval x2)).run M.P e.w = .ok () e.w:=by
   rcases p2 with ⟨_,q1,q2⟩ | ⟨q1,xs,ys,q2,q3⟩
   ·refine F3 _ _ _ _ q1 (fun k1 k2=>?_);have:=q2 k1 k2;rcases hc4 with (h | h) | h
    ·rw [this] at h;cases h
    ·exact .inl h
    ·exact .inr h
   ·rw [q2,q3];refine run_eqGuard_agg e.w _ _ _ _ _ _ ?_;rcases hc5 with h | h
    ·rw [q1] at h;cases h
    ·exact h
  rw [Sem.run_bind,hguard];simp only [Result.andThen_ok];rw [WU p1,Sem.run_bind];show ((Op.equalIn Op.maxDepth t (a.eval x1) (a.eval x2)).run M.P e.w).andThen _=_;rw [hrun];simp only [Result.andThen_ok,Sem.run_pure]
 ·simp only [AQ] at hp;split at hp
  ·rename_i s1 s2 hs1 hs2;rw [hs1] at v1;rw [hs2] at v2;simp only [RS,V.isAgg,R,E0] at v1 v2;rw [v1,v2,hs1,hs2,Sem.run_bind,F3 _ _ _ _ BF BF];cases neg <;> simp [binOp,Op.stringOp,AX,beq_toListBytes]
  ·exact hp.elim
end Mv
