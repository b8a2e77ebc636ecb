/- A part. -/
import Derived.Test.YtpcgkiecjakknaaGreatDoorFT
import Derived.Test.YtpcgkiecjakknaaGreatDoorChecked
import Derived.WalkKit
import Derived.LaidEql
import Derived.Stop.Asserts
import Derived.RowKitTokens
set_option linter.all false
set_option maxRecDepth 100000
namespace Mv
open Go
variable {M:Seat}
theorem N7 {c:Ctx} {e:Env} {H:Hp} (h:Inv M c e H) {id:Nat} (hid:Af H id=true) {n k:Int} (hv:hget H id=Bt n k) :
 e.w.cell? ⟨e.ρ id,0,none⟩=some (.int .i64 n)∧e.w.cell? ⟨e.ρ id,1,none⟩=some (.iface (M.τ 74) (.int .i64 k)):=by
 obtain ⟨cells,el,hc,hsz,hR⟩:=h.cells hid (by rw [hv];rfl)
 rw [hv] at hsz hR
 have hlt:2≤cells.size:=hsz
 have e1:cells.toList.take (Bt n k).size=[cells[0],cells[1]]:=by
  rcases cells with ⟨l⟩
  match l,hlt with
  | x :: y :: r,_=>rfl
 rw [e1] at hR
 simp [Bt,er,R,V.flo,V.chain,V.size] at hR
 obtain ⟨-,h0,x,h1,-,hx⟩:=hR
 have hx:x = .int .i64 k:=by simpa [V.isAgg] using hx
 subst hx
 rw [h.τ] at h1
 refine ⟨?_,?_⟩
 ·simp [World.cell?,hc,show 0 < cells.size by omega,h0]
 ·simp [World.cell?,hc,show 1 < cells.size by omega,h1]
theorem IN {g:Nat} {gv:Value} (hg:(g,gv) ∈ M.raw)
 (h:∀ (n k:Int) (q:Nat) (t:Addr) (old:Value) (w:World),w.cell? ⟨g,0,none⟩=some gv→w.cell? ⟨q,0,none⟩=some (.int .i64 n)→w.cell? ⟨q,1,none⟩=some (.iface (M.τ 74) (.int .i64 k))→w.cell? t=some old→w.frozen? t=false →
  Calls M.P (M.φ 93) #[.iface (M.τ 145) (.pointer (some ⟨q,0,none⟩)),.iface (M.τ 394) (.pointer (some t))] w fun ev w'=>ev = .returned (.bool true)∧∃ o1 o2 o3 o4,w'=((((w.alloc o1).alloc o2).alloc o3).alloc o4).setCell t (.int .i64 k)) (c e0 b:Int) :
 Ag M 93 [.ifc 145 (.ptr 0 []),.ifc 394 (.ptr 1 [])] [(0,Bt c e0),(1,.int .i64 b)] 2 (Q3 (.bool true) [(0,Bt c e0),(1,.int .i64 e0)] 2):=by
 intro e vs hI hD ⟨hvs,hargs⟩
 obtain ⟨v0,v1,rfl⟩:∃ v0 v1,vs = #[v0,v1]:=by
  match vs,hvs with
  | ⟨[v0,v1]⟩,_=>exact ⟨v0,v1,rfl⟩
 have h0:=hargs 0
 have h1:=hargs 1
 simp only [List.getD_cons_zero,List.getD_cons_succ,RV,RS,V.isAgg,R,EF] at h0 h1
 obtain ⟨x0,k0,_,_,rfl⟩:=h0
 obtain ⟨x1,k1,_,_,rfl⟩:=h1
 have e0':v0 = .iface (M.τ 145) (.pointer (some ⟨e.ρ 0,0,none⟩)):=by rw [← hI.τ];simpa [As] using k0
 have e1:v1 = .iface (M.τ 394) (.pointer (some ⟨e.ρ 1,0,none⟩)):=by rw [← hI.τ];simpa [As] using k1
 subst e0' e1
 obtain ⟨f0,f1⟩:=N7 hI (id:=0) rfl rfl
 obtain ⟨x,cells,el,hx,hc,hlt,hcell,hfz⟩:=NS hI (id:=1) rfl rfl rfl
 refine (h c e0 (e.ρ 0) ⟨e.ρ 1,0,none⟩ x e.w (N6 hI hg) f0 f1 hcell hfz).mono ?_
 rintro en w' ⟨rfl,o1,o2,o3,o4,rfl⟩
 obtain ⟨l1,I1⟩:=hI.garb o1
 obtain ⟨l2,I2⟩:=I1.garb o2
 obtain ⟨l3,I3⟩:=I2.garb o3
 obtain ⟨l4,I4⟩:=I3.garb o4
 have hr:e.ρ 1 < e.w.heap.size:=hI.rb 1 (hI.blk 1 rfl).1
 have hc4:((((e.w.alloc o1).alloc o2).alloc o3).alloc o4).heap[e.ρ 1]?=some (.cells cells el (0,0)):=by
  rw [A9 _ _ DI,A9 _ _ DI,A9 _ _ DI,A9 _ _ hr];exact hc
 obtain ⟨l5,I5⟩:=I4.row (id:=1) rfl hc4 (new:=cells.setIfInBounds 0 (.int .i64 e0)) B5 (z:=.int .i64 e0) rfl (by simp only [V.size,Array.size_setIfInBounds];omega) (by
  have:(cells.setIfInBounds 0 (Value.int .i64 e0)).toList.take 1=[Value.int .i64 e0]:=by
   rcases cells with ⟨l⟩
   cases l with
   | nil=>simp at hlt
   | cons y r=>simp
  show R _ (.int .i64 e0) ((cells.setIfInBounds 0 (Value.int .i64 e0)).toList.take 1)
  rw [this];simp only [R])
 rw [setCell_eq_setRow _ _ _ cells el (0,0) _ hc4]
 refine ⟨_,.bool true,_,[(0,Bt c e0),(1,.int .i64 e0)],2,rfl,rfl,I5,?_,hD,Nat.le_refl _,rfl,rfl,rfl⟩
 simp [RV,RS,V.isAgg,R]
theorem Ju {g:Nat} {gv:Value} (hg:(g,gv) ∈ M.raw)
 (h:∀ (q:Nat) (t:Addr) (old:Value) (w:World),w.cell? ⟨g,0,none⟩=some gv→w.cell? t=some old→w.frozen? t=false →
  Calls M.P (M.φ 93) #[.iface (M.τ 145) (.pointer (some ⟨q,0,none⟩)),.iface (M.τ 147) (.pointer (some t))] w fun ev w'=>ev = .returned (.bool true)∧∃ o1 o2 o3 o4,w'=((((w.alloc o1).alloc o2).alloc o3).alloc o4).setCell t (.pointer (some ⟨q,0,none⟩))) (c e0:Int) :
 Ag M 93 [.ifc 145 (.ptr 0 []),.ifc 147 (.ptr 1 [])] [(0,Bt c e0),(1,.nilp)] 2 (Q3 (.bool true) [(0,Bt c e0),(1,.ptr 0 [])] 2):=by
 intro e vs hI hD ⟨hvs,hargs⟩
 obtain ⟨v0,v1,rfl⟩:∃ v0 v1,vs = #[v0,v1]:=by
  match vs,hvs with
  | ⟨[v0,v1]⟩,_=>exact ⟨v0,v1,rfl⟩
 have h0:=hargs 0
 have h1:=hargs 1
 simp only [List.getD_cons_zero,List.getD_cons_succ,RV,RS,V.isAgg,R,EF] at h0 h1
 obtain ⟨x0,k0,_,hd0,rfl⟩:=h0
 obtain ⟨x1,k1,_,_,rfl⟩:=h1
 have e0':v0 = .iface (M.τ 145) (.pointer (some ⟨e.ρ 0,0,none⟩)):=by rw [← hI.τ];simpa [As] using k0
 have e1:v1 = .iface (M.τ 147) (.pointer (some ⟨e.ρ 1,0,none⟩)):=by rw [← hI.τ];simpa [As] using k1
 subst e0' e1
 obtain ⟨x,cells,el,hx,hc,hlt,hcell,hfz⟩:=NS hI (id:=1) rfl rfl rfl
 refine (h (e.ρ 0) ⟨e.ρ 1,0,none⟩ x e.w (N6 hI hg) hcell hfz).mono ?_
 rintro en w' ⟨rfl,o1,o2,o3,o4,rfl⟩
 obtain ⟨l1,I1⟩:=hI.garb o1
 obtain ⟨l2,I2⟩:=I1.garb o2
 obtain ⟨l3,I3⟩:=I2.garb o3
 obtain ⟨l4,I4⟩:=I3.garb o4
 have hr:e.ρ 1 < e.w.heap.size:=hI.rb 1 (hI.blk 1 rfl).1
 have hc4:((((e.w.alloc o1).alloc o2).alloc o3).alloc o4).heap[e.ρ 1]?=some (.cells cells el (0,0)):=by
  rw [A9 _ _ DI,A9 _ _ DI,A9 _ _ DI,A9 _ _ hr];exact hc
 obtain ⟨l5,I5⟩:=I4.row (id:=1) rfl hc4 (new:=cells.setIfInBounds 0 (.pointer (some ⟨e.ρ 0,0,none⟩))) B5 (z:=.ptr 0 []) rfl (by simp only [V.size,Array.size_setIfInBounds];omega) (by
  have:(cells.setIfInBounds 0 (Value.pointer (some ⟨e.ρ 0,0,none⟩))).toList.take 1=[Value.pointer (some ⟨e.ρ 0,0,none⟩)]:=by
   rcases cells with ⟨l⟩
   cases l with
   | nil=>simp at hlt
   | cons y r=>simp
  show R _ (.ptr 0 []) ((cells.setIfInBounds 0 (Value.pointer (some ⟨e.ρ 0,0,none⟩))).toList.take 1)
  rw [this];simp [R,As]
  exact hd0)
 rw [setCell_eq_setRow _ _ _ cells el (0,0) _ hc4]
 refine ⟨_,.bool true,_,[(0,Bt c e0),(1,.ptr 0 [])],2,rfl,rfl,I5,?_,hD,Nat.le_refl _,rfl,rfl,rfl⟩
 simp [RV,RS,V.isAgg,R]
end Mv
namespace Go.Proofs.YtpcgkiecjakknaaGreatDoor
open Go Go.RowKit Go.Extern.Stop Go.Stop Go.Extern
abbrev hdl (t:Nat):Value:=.pointer (some ⟨6,t,none⟩)
abbrev rvl (t:Nat) (b:Addr) (fl:Int):Value:=.agg #[hdl t,.pointer (some b),.int .u64 fl]
theorem rlmA (z:Sem Value) (f:TypeId→Addr→Nat→Nat→Sem Value) (v:Value) :
 ReflectliteValue.method z f #[v]=(do match ← ReflectliteValue.parts v with | none=>z | some (t,a,fl)=>f t a fl (fl % 32)):=rfl
theorem valueOfE (t:Addr) (w:World):(ReflectliteValue.unpack (.iface 164 (.pointer (some t)))).run Tryz.prog w = .ok (rvl 164 ⟨w.heap.size,0,none⟩ 150) (w.alloc (.cells #[.pointer (some t)] 164)):=by kernel_rfl
theorem valueOfF (t:Addr) (w:World):(ReflectliteValue.unpack (.iface 83 (.pointer (some t)))).run Tryz.prog w = .ok (rvl 83 ⟨w.heap.size,0,none⟩ 150) (w.alloc (.cells #[.pointer (some t)] 83)):=by kernel_rfl
theorem valueOfN (a:Int) (w:World):(ReflectliteValue.unpack (.iface 55 (.int .i64 a))).run Tryz.prog w = .ok (rvl 55 ⟨w.heap.size,0,none⟩ 130) (w.alloc (.cells #[.int .i64 a] 55)):=by kernel_rfl
theorem typeE (a : Addr) (w : World) : (ReflectliteValue.methodAny (ReflectliteValue.valueError "reflectlite.Value.Type" 0) (fun t _ _ _ => ReflectliteType.toType t) #[rvl 164 a 150]).run Tryz.prog w = .ok (.iface 198 (.agg #[hdl 164])) w := by kernel_rfl
theorem typeF (a : Addr) (w : World) : (ReflectliteValue.methodAny (ReflectliteValue.valueError "reflectlite.Value.Type" 0) (fun t _ _ _ => ReflectliteType.toType t) #[rvl 83 a 150]).run Tryz.prog w = .ok (.iface 198 (.agg #[hdl 83])) w := by kernel_rfl
theorem methodKind (h : Value) (w : World) : (Go.method 471 198 (.agg #[h]) "Kind").run Tryz.prog w = .ok (192, h) w := by kernel_rfl
theorem methodElem (h : Value) (w : World) : (Go.method 471 198 (.agg #[h]) "Elem").run Tryz.prog w = .ok (205, .agg #[h]) w := by kernel_rfl
theorem methodImpl (h : Value) (w : World) : (Go.method 471 198 (.agg #[h]) "Implements").run Tryz.prog w = .ok (206, .agg #[h]) w := by kernel_rfl
theorem methodAsgn (h : Value) (w : World) : (Go.method 471 198 (.agg #[h]) "AssignableTo").run Tryz.prog w = .ok (203, .agg #[h]) w := by kernel_rfl
theorem kindPE (w:World):((ReflectliteType.abiMethod fun t=>(fun a:Nat=>Value.int IntKind.u8 (a:Int)) <$> Rtype.kind t) #[hdl 164]).run Tryz.prog w = .ok (.int .u8 22) w:=by kernel_rfl
theorem kindE (w:World):((ReflectliteType.abiMethod fun t=>(fun a:Nat=>Value.int IntKind.u8 (a:Int)) <$> Rtype.kind t) #[hdl 55]).run Tryz.prog w = .ok (.int .u8 2) w:=by kernel_rfl
theorem kindPPF (w:World):((ReflectliteType.abiMethod fun t=>(fun a:Nat=>Value.int IntKind.u8 (a:Int)) <$> Rtype.kind t) #[hdl 83]).run Tryz.prog w = .ok (.int .u8 22) w:=by kernel_rfl
theorem kindPF (w:World):((ReflectliteType.abiMethod fun t=>(fun a:Nat=>Value.int IntKind.u8 (a:Int)) <$> Rtype.kind t) #[hdl 81]).run Tryz.prog w = .ok (.int .u8 22) w:=by kernel_rfl
theorem elemPE (w:World):(ReflectliteType.method ReflectliteType.elem #[.agg #[hdl 164]]).run Tryz.prog w = .ok (.iface 198 (.agg #[hdl 55])) w:=by kernel_rfl
theorem elemPPF (w:World):(ReflectliteType.method ReflectliteType.elem #[.agg #[hdl 83]]).run Tryz.prog w = .ok (.iface 198 (.agg #[hdl 81])) w:=by kernel_rfl
theorem implE (w : World) : (ReflectliteType.relation "Implements" ReflectliteType.implements_ #[.agg #[hdl 55], .iface 198 (.agg #[hdl 25])]).run Tryz.prog w = .ok (.bool true) w := by kernel_rfl
theorem implPF (w : World) : (ReflectliteType.relation "Implements" ReflectliteType.implements_ #[.agg #[hdl 81], .iface 198 (.agg #[hdl 25])]).run Tryz.prog w = .ok (.bool true) w := by kernel_rfl
theorem typeOfN (v:Value) (w:World):(ReflectliteType.typeOf #[.iface 55 v]).run Tryz.prog w = .ok (.iface 198 (.agg #[hdl 55])) w:=by kernel_rfl
theorem asgnEE (w : World) : (ReflectliteType.relation "AssignableTo" ReflectliteType.assignableTo #[.agg #[hdl 55], .iface 198 (.agg #[hdl 55])]).run Tryz.prog w = .ok (.bool true) w := by kernel_rfl
theorem asgnEF (w : World) : (ReflectliteType.relation "AssignableTo" ReflectliteType.assignableTo #[.agg #[hdl 55], .iface 198 (.agg #[hdl 81])]).run Tryz.prog w = .ok (.bool false) w := by kernel_rfl
theorem partsPE (a:Addr) (w:World):(ReflectliteValue.parts (rvl 164 a 150)).run Tryz.prog w = .ok (some (164,a,150)) w:=by kernel_rfl
theorem partsPPF (a:Addr) (w:World):(ReflectliteValue.parts (rvl 83 a 150)).run Tryz.prog w = .ok (some (83,a,150)) w:=by kernel_rfl
theorem partsEa (a:Addr) (w:World):(ReflectliteValue.parts (rvl 55 a 386)).run Tryz.prog w = .ok (some (55,a,386)) w:=by kernel_rfl
theorem partsE (a:Addr) (w:World):(ReflectliteValue.parts (rvl 55 a 130)).run Tryz.prog w = .ok (some (55,a,130)) w:=by kernel_rfl
theorem isNilPE (a p:Addr) (W:World) (ha:W.cell? a=some (.pointer (some p))) :
 (ReflectliteValue.method (ReflectliteValue.valueError "reflectlite.Value.IsNil" 0) ReflectliteValue.isNil #[rvl 164 a 150]).run Tryz.prog W = .ok (.bool false) W := by
 rw [rlmA]
 simp only [Sem.run_bind,partsPE,Result.andThen]
 simp [ReflectliteValue.isNil,loadVar,isAgg,underlying,Tryz.underlying164,ha,Result.andThen]
theorem isNilPPF (a p:Addr) (W:World) (ha:W.cell? a=some (.pointer (some p))) :
 (ReflectliteValue.method (ReflectliteValue.valueError "reflectlite.Value.IsNil" 0) ReflectliteValue.isNil #[rvl 83 a 150]).run Tryz.prog W = .ok (.bool false) W := by
 rw [rlmA]
 simp only [Sem.run_bind,partsPPF,Result.andThen]
 simp [ReflectliteValue.isNil,loadVar,isAgg,underlying,Tryz.underlying83,ha,Result.andThen]
theorem elemOfPE (w:World):(Rtype.elem? 164).run Tryz.prog w = .ok (some 55) w:=by kernel_rfl
theorem mkE (p:Addr) (w:World):(ReflectliteValue.mk 55 p ReflectliteValue.flagAddr).run Tryz.prog w = .ok (rvl 55 p 386) w:=by kernel_rfl
theorem elemVE (a p:Addr) (W:World) (ha:W.cell? a=some (.pointer (some p))) :
 (ReflectliteValue.method (ReflectliteValue.valueError "reflectlite.Value.Elem" 0) ReflectliteValue.elem #[rvl 164 a 150]).run Tryz.prog W = .ok (rvl 55 p 386) W := by
 rw [rlmA]
 simp only [Sem.run_bind,partsPE,Result.andThen]
 simp [ReflectliteValue.elem,loadVar,isAgg,underlying,Tryz.underlying164,ha,Result.andThen,elemOfPE,mkE]
theorem rlsA (v x:Value):ReflectliteValue.set #[v,x]=(do
 let (some (dst,a,fl),some (src,b,_)):=(← ReflectliteValue.parts v,← ReflectliteValue.parts x)
  | unsupported (.noEntry "extern/(internal/reflectlite.Value).Set.zeroValue")
 if fl / ReflectliteValue.flagAddr % 2 == 0 then unsupported (.noEntry "extern/(internal/reflectlite.Value).Set.unaddressable")
 let val ← loadVar src b
 if ← Rtype.directlyAssignable dst src then storeVar dst a val
 else if ← Rtype.implements dst src then
  if (← Rtype.kind src) == 20 then
   match val with
   | .nilIface => unsupported (.noEntry "extern/reflectlite: a nil value of one interface type handed on as a value of another")
   | _=>storeVar dst a val
  else storeVar dst a (.iface src val)
 else panicString ("reflectlite.Set: value of type " ++ (← Rtype.spelt src) ++ " is not assignable to type " ++ (← Rtype.spelt dst))
 pure (.tuple #[])):=rfl
theorem directE (w:World):(Rtype.directlyAssignable 55 55).run Tryz.prog w = .ok true w:=by kernel_rfl
theorem setE (ta b:Addr) (n:Int) (old:Value) (W:World) (hb:W.cell? b=some (.int .i64 n)) (ht:W.cell? ta=some old) (hf:W.frozen? ta=false) :
 (ReflectliteValue.set #[rvl 55 ta 386,rvl 55 b 130]).run Tryz.prog W = .ok (.tuple #[]) (W.setCell ta (.int .i64 n)):=by
 rw [rlsA]
 simp only [Sem.run_bind,partsEa,partsE,Result.andThen]
 simp [ReflectliteValue.flagAddr,loadVar,isAgg,underlying,Tryz.underlying55,hb,Result.andThen,directE,storeVar,Value.cells,storeCells,Addr.add]
 rw [run_store Tryz.prog W ta _ _ (by rfl)]
 simp [ht,hf]
theorem lacksAs (v:Value) (xT:TypeId) (w:World):(Instr.typeAssert (.iface 55 v) xT 239 true).run Tryz.prog w = .ok (.tuple #[.nilIface,.bool false]) w:=run_typeAssert_lacksB Tryz.underlying239 (by kernel_rfl) (by kernel_rfl) v xT w
theorem lacksU (v:Value) (xT:TypeId) (w:World):(Instr.typeAssert (.iface 55 v) xT 203 true).run Tryz.prog w = .ok (.tuple #[.nilIface,.bool false]) w:=run_typeAssert_lacksB Tryz.underlying203 (by kernel_rfl) (by kernel_rfl) v xT w
theorem lacksUs (v:Value) (xT:TypeId) (w:World):(Instr.typeAssert (.iface 55 v) xT 205 true).run Tryz.prog w = .ok (.tuple #[.nilIface,.bool false]) w:=run_typeAssert_lacksB Tryz.underlying205 (by kernel_rfl) (by kernel_rfl) v xT w
abbrev etV:Value:=.iface 198 (.agg #[hdl 25])
abbrev behind (w:World) (t:Nat) (a:Addr):World :=
 ((w.alloc (.cells #[.pointer (some a)] t)).alloc (.cells #[hdl t,.pointer (some ⟨w.heap.size,0,none⟩),.int .u64 150] 147)).alloc (.cells #[hdl t,.pointer (some ⟨w.heap.size,0,none⟩),.int .u64 150] 147)
set_option maxHeartbeats 4000000 in
theorem as_num (n:Int) (t:Addr) (old:Value) (w:World) (hg:w.cell? ⟨0,0,none⟩=some etV) (ht0:w.cell? t=some old) (hf0:w.frozen? t=false) :
 Calls Tryz.prog 26 #[.iface 55 (.int .i64 n),.iface 164 (.pointer (some t))] w fun ev w'=>ev = .returned (.bool true)∧w'=((behind w 164 t).alloc (.cells #[.int .i64 n] 55)).setCell t (.int .i64 n):=by
 have hVO:=@run_callFunc_extern Tryz.prog 60 _ (fun args=>ReflectliteValue.unpack (args.getD 0 (.tuple #[]))) Tryz.func60 (by kernel_rfl) (by kernel_rfl) (by kernel_rfl) (by kernel_rfl)
 have hTY := @run_callFunc_extern Tryz.prog 61 _ (ReflectliteValue.methodAny (ReflectliteValue.valueError "reflectlite.Value.Type" 0) (fun t _ _ _ => ReflectliteType.toType t)) Tryz.func61 (by kernel_rfl) (by kernel_rfl) (by kernel_rfl) (by kernel_rfl)
 have hIN := @run_callFunc_extern Tryz.prog 62 _ (ReflectliteValue.method (ReflectliteValue.valueError "reflectlite.Value.IsNil" 0) ReflectliteValue.isNil) Tryz.func62 (by kernel_rfl) (by kernel_rfl) (by kernel_rfl) (by kernel_rfl)
 have hKI:=@run_callFunc_extern Tryz.prog 192 _ (ReflectliteType.abiMethod fun t=>do pure (.int .u8 (← Rtype.kind t))) Tryz.func192 (by kernel_rfl) (by kernel_rfl) (by kernel_rfl) (by kernel_rfl)
 have hRE:=@run_callFunc_extern Tryz.prog 205 _ (ReflectliteType.method ReflectliteType.elem) Tryz.func205 (by kernel_rfl) (by kernel_rfl) (by kernel_rfl) (by kernel_rfl)
 have hRI := @run_callFunc_extern Tryz.prog 206 _ (ReflectliteType.relation "Implements" ReflectliteType.implements_) Tryz.func206 (by kernel_rfl) (by kernel_rfl) (by kernel_rfl) (by kernel_rfl)
 have hTO:=@run_callFunc_extern Tryz.prog 51 _ ReflectliteType.typeOf Tryz.func51 (by kernel_rfl) (by kernel_rfl) (by kernel_rfl) (by kernel_rfl)
 have hRA := @run_callFunc_extern Tryz.prog 203 _ (ReflectliteType.relation "AssignableTo" ReflectliteType.assignableTo) Tryz.func203 (by kernel_rfl) (by kernel_rfl) (by kernel_rfl) (by kernel_rfl)
 have hEL := @run_callFunc_extern Tryz.prog 103 _ (ReflectliteValue.method (ReflectliteValue.valueError "reflectlite.Value.Elem" 0) ReflectliteValue.elem) Tryz.func103 (by kernel_rfl) (by kernel_rfl) (by kernel_rfl) (by kernel_rfl)
 have hSE:=@run_callFunc_extern Tryz.prog 104 _ ReflectliteValue.set Tryz.func104 (by kernel_rfl) (by kernel_rfl) (by kernel_rfl) (by kernel_rfl)
 have f1:=typeOfN
 have f2:=methodAsgn
 have f3:=asgnEE
 have f4:=valueOfN
 have f5:=valueOfE
 have f6:=typeE
 have f7:=methodKind
 have f8:=methodElem
 have f9:=methodImpl
 have g1:=kindPE
 have g2:=kindE
 have g3:=elemPE
 have g4:=implE
 have n8:=isNilPE ⟨w.heap.size,0,none⟩ t ((w.alloc (.cells #[.pointer (some t)] 164)).alloc (.cells #[hdl 164,.pointer (some ⟨w.heap.size,0,none⟩),.int .u64 150] 147)) (by simp)
 have hlt:0 < w.heap.size:=by
  rcases Nat.lt_or_ge 0 w.heap.size with h | h
  ·exact h
  ·simp [World.cell?,Array.getElem?_eq_none h] at hg
 have hg2:((w.alloc (.cells #[.pointer (some t)] 164)).alloc (.cells #[hdl 164,.pointer (some ⟨w.heap.size,0,none⟩),.int .u64 150] 147)).cell? ⟨0,0,none⟩=some etV:=by
  rw [World.cell?_alloc_lt _ _ ⟨0,0,none⟩ (by first | (simp;done) | (simp;omega)),World.cell?_alloc_lt _ _ ⟨0,0,none⟩ hlt];exact hg
 have htl:t.block < w.heap.size:=by
  rcases Nat.lt_or_ge t.block w.heap.size with h | h
  ·exact h
  ·simp [World.cell?,Array.getElem?_eq_none h] at ht0
 have el:=elemVE ⟨w.heap.size,0,none⟩ t (behind w 164 t) (by rw [World.cell?_alloc_lt _ _ ⟨w.heap.size,0,none⟩ (by simp;omega)];simp)
 have st:=setE t ⟨w.heap.size + 1 + 1 + 1,0,none⟩ n old ((behind w 164 t).alloc (.cells #[.int .i64 n] 55))
  (by rw [World.cell?_alloc_at _ _ _ _ (by simp)];rfl)
  (by rw [World.cell?_alloc_lt _ _ t (by simp;omega),World.cell?_alloc_lt _ _ t (by simp;omega),World.cell?_alloc_lt _ _ t (by simp;omega),World.cell?_alloc_lt _ _ t htl];exact ht0)
  (by rw [World.frozen?_alloc_old _ _ t (by simp;omega),World.frozen?_alloc_old _ _ t (by simp;omega),World.frozen?_alloc_old _ _ t (by simp;omega),World.frozen?_alloc_old _ _ t (Nat.ne_of_lt htl)];exact hf0)
 go_enter Tryz.func26,Tryz.ntmps26
 go_wp2
 refine wp_loop_rounds 1 ?_
 rw [rounds_succ]
 go_wp2
 go_ret
 exact ⟨rfl,rfl⟩
set_option maxHeartbeats 4000000 in
theorem as_miss (n:Int) (t:Addr) (w:World) (hg:w.cell? ⟨0,0,none⟩=some etV) :
 Calls Tryz.prog 26 #[.iface 55 (.int .i64 n),.iface 83 (.pointer (some t))] w fun ev w'=>ev = .returned (.bool false)∧w'=behind w 83 t:=by
 have hVO:=@run_callFunc_extern Tryz.prog 60 _ (fun args=>ReflectliteValue.unpack (args.getD 0 (.tuple #[]))) Tryz.func60 (by kernel_rfl) (by kernel_rfl) (by kernel_rfl) (by kernel_rfl)
 have hTY := @run_callFunc_extern Tryz.prog 61 _ (ReflectliteValue.methodAny (ReflectliteValue.valueError "reflectlite.Value.Type" 0) (fun t _ _ _ => ReflectliteType.toType t)) Tryz.func61 (by kernel_rfl) (by kernel_rfl) (by kernel_rfl) (by kernel_rfl)
 have hIN := @run_callFunc_extern Tryz.prog 62 _ (ReflectliteValue.method (ReflectliteValue.valueError "reflectlite.Value.IsNil" 0) ReflectliteValue.isNil) Tryz.func62 (by kernel_rfl) (by kernel_rfl) (by kernel_rfl) (by kernel_rfl)
 have hKI:=@run_callFunc_extern Tryz.prog 192 _ (ReflectliteType.abiMethod fun t=>do pure (.int .u8 (← Rtype.kind t))) Tryz.func192 (by kernel_rfl) (by kernel_rfl) (by kernel_rfl) (by kernel_rfl)
 have hRE:=@run_callFunc_extern Tryz.prog 205 _ (ReflectliteType.method ReflectliteType.elem) Tryz.func205 (by kernel_rfl) (by kernel_rfl) (by kernel_rfl) (by kernel_rfl)
 have hRI := @run_callFunc_extern Tryz.prog 206 _ (ReflectliteType.relation "Implements" ReflectliteType.implements_) Tryz.func206 (by kernel_rfl) (by kernel_rfl) (by kernel_rfl) (by kernel_rfl)
 have hTO:=@run_callFunc_extern Tryz.prog 51 _ ReflectliteType.typeOf Tryz.func51 (by kernel_rfl) (by kernel_rfl) (by kernel_rfl) (by kernel_rfl)
 have hRA := @run_callFunc_extern Tryz.prog 203 _ (ReflectliteType.relation "AssignableTo" ReflectliteType.assignableTo) Tryz.func203 (by kernel_rfl) (by kernel_rfl) (by kernel_rfl) (by kernel_rfl)
 have f1:=typeOfN
 have f2:=methodAsgn
 have f3:=asgnEF
 have f4:=valueOfN
 have f5:=valueOfF
 have f6:=typeF
 have f7:=methodKind
 have f8:=methodElem
 have f9:=methodImpl
 have g1:=kindPPF
 have g2:=kindPF
 have g3:=elemPPF
 have g4:=implPF
 have n8:=isNilPPF ⟨w.heap.size,0,none⟩ t ((w.alloc (.cells #[.pointer (some t)] 83)).alloc (.cells #[hdl 83,.pointer (some ⟨w.heap.size,0,none⟩),.int .u64 150] 147)) (by simp)
 have hlt:0 < w.heap.size:=by
  rcases Nat.lt_or_ge 0 w.heap.size with h | h
  ·exact h
  ·simp [World.cell?,Array.getElem?_eq_none h] at hg
 have hg2:((w.alloc (.cells #[.pointer (some t)] 83)).alloc (.cells #[hdl 83,.pointer (some ⟨w.heap.size,0,none⟩),.int .u64 150] 147)).cell? ⟨0,0,none⟩=some etV:=by
  rw [World.cell?_alloc_lt _ _ ⟨0,0,none⟩ (by first | (simp;done) | (simp;omega)),World.cell?_alloc_lt _ _ ⟨0,0,none⟩ hlt];exact hg
 have l1:=lacksAs
 have l2:=lacksU
 have l3:=lacksUs
 go_enter Tryz.func26,Tryz.ntmps26
 go_wp2
 refine wp_loop_rounds 1 ?_
 rw [rounds_succ]
 go_wp2
 go_ret
 exact ⟨rfl,rfl⟩
end Go.Proofs.YtpcgkiecjakknaaGreatDoor
namespace Go.Proofs.YtpcgkiecjakknaaGreatDoor
open Go Go.RowKit Go.Extern.Stop Go.Stop Go.Extern
theorem typeOfP (v:Value) (w:World):(ReflectliteType.typeOf #[.iface 81 v]).run Tryz.prog w = .ok (.iface 198 (.agg #[hdl 81])) w:=by kernel_rfl
theorem asgnFE (w : World) : (ReflectliteType.relation "AssignableTo" ReflectliteType.assignableTo #[.agg #[hdl 81], .iface 198 (.agg #[hdl 55])]).run Tryz.prog w = .ok (.bool false) w := by kernel_rfl
theorem asgnFF (w : World) : (ReflectliteType.relation "AssignableTo" ReflectliteType.assignableTo #[.agg #[hdl 81], .iface 198 (.agg #[hdl 81])]).run Tryz.prog w = .ok (.bool true) w := by kernel_rfl
theorem valueOfP (t:Addr) (w:World):(ReflectliteValue.unpack (.iface 81 (.pointer (some t)))).run Tryz.prog w = .ok (rvl 81 ⟨w.heap.size,0,none⟩ 150) (w.alloc (.cells #[.pointer (some t)] 81)):=by kernel_rfl
theorem lacksAsF (v:Value) (xT:TypeId) (w:World):(Instr.typeAssert (.iface 81 v) xT 239 true).run Tryz.prog w = .ok (.tuple #[.nilIface,.bool false]) w:=run_typeAssert_lacksB Tryz.underlying239 (by kernel_rfl) (by kernel_rfl) v xT w
theorem hasUF (v:Value) (xT:TypeId) (w:World):(Instr.typeAssert (.iface 81 v) xT 203 true).run Tryz.prog w = .ok (.tuple #[.iface 81 v,.bool true]) w:=run_typeAssert_hasB Tryz.underlying203 (by kernel_rfl) v xT w
theorem methodUnw (v : Value) (w : World) : (Go.method 471 81 v "Unwrap").run Tryz.prog w = .ok (197, v) w := by kernel_rfl
theorem elemOfPPF (w:World):(Rtype.elem? 83).run Tryz.prog w = .ok (some 81) w:=by kernel_rfl
theorem mkPF (p:Addr) (w:World):(ReflectliteValue.mk 81 p ReflectliteValue.flagAddr).run Tryz.prog w = .ok (rvl 81 p 406) w:=by kernel_rfl
theorem elemVF (a p:Addr) (W:World) (ha:W.cell? a=some (.pointer (some p))) :
 (ReflectliteValue.method (ReflectliteValue.valueError "reflectlite.Value.Elem" 0) ReflectliteValue.elem #[rvl 83 a 150]).run Tryz.prog W = .ok (rvl 81 p 406) W := by
 rw [rlmA]
 simp only [Sem.run_bind,partsPPF,Result.andThen]
 simp [ReflectliteValue.elem,loadVar,isAgg,underlying,Tryz.underlying83,ha,Result.andThen,elemOfPPF,mkPF]
theorem partsFa (a:Addr) (w:World):(ReflectliteValue.parts (rvl 81 a 406)).run Tryz.prog w = .ok (some (81,a,406)) w:=by kernel_rfl
theorem partsF (a:Addr) (w:World):(ReflectliteValue.parts (rvl 81 a 150)).run Tryz.prog w = .ok (some (81,a,150)) w:=by kernel_rfl
theorem directF (w:World):(Rtype.directlyAssignable 81 81).run Tryz.prog w = .ok true w:=by kernel_rfl
theorem setF (ta b p:Addr) (old:Value) (W:World) (hb:W.cell? b=some (.pointer (some p))) (ht:W.cell? ta=some old) (hf:W.frozen? ta=false) :
 (ReflectliteValue.set #[rvl 81 ta 406,rvl 81 b 150]).run Tryz.prog W = .ok (.tuple #[]) (W.setCell ta (.pointer (some p))):=by
 rw [rlsA]
 simp only [Sem.run_bind,partsFa,partsF,Result.andThen]
 simp [ReflectliteValue.flagAddr,loadVar,isAgg,underlying,Tryz.underlying81,hb,Result.andThen,directF,storeVar,Value.cells,storeCells,Addr.add]
 rw [run_store Tryz.prog W ta _ _ (by rfl)]
 simp [ht,hf]
set_option maxHeartbeats 4000000 in
theorem as_fe (n k:Int) (q:Nat) (t:Addr) (old:Value) (w:World) (hg:w.cell? ⟨0,0,none⟩=some etV) (hq0:w.cell? ⟨q,0,none⟩=some (.int .i64 n)) (hq1:w.cell? ⟨q,1,none⟩=some (.iface 55 (.int .i64 k))) (ht0:w.cell? t=some old) (hf0:w.frozen? t=false) :
 Calls Tryz.prog 26 #[.iface 81 (.pointer (some ⟨q,0,none⟩)),.iface 164 (.pointer (some t))] w fun ev w'=>ev = .returned (.bool true)∧∃ o1 o2 o3 o4,w'=((((w.alloc o1).alloc o2).alloc o3).alloc o4).setCell t (.int .i64 k):=by
 have hVO:=@run_callFunc_extern Tryz.prog 60 _ (fun args=>ReflectliteValue.unpack (args.getD 0 (.tuple #[]))) Tryz.func60 (by kernel_rfl) (by kernel_rfl) (by kernel_rfl) (by kernel_rfl)
 have hTY := @run_callFunc_extern Tryz.prog 61 _ (ReflectliteValue.methodAny (ReflectliteValue.valueError "reflectlite.Value.Type" 0) (fun t _ _ _ => ReflectliteType.toType t)) Tryz.func61 (by kernel_rfl) (by kernel_rfl) (by kernel_rfl) (by kernel_rfl)
 have hIN := @run_callFunc_extern Tryz.prog 62 _ (ReflectliteValue.method (ReflectliteValue.valueError "reflectlite.Value.IsNil" 0) ReflectliteValue.isNil) Tryz.func62 (by kernel_rfl) (by kernel_rfl) (by kernel_rfl) (by kernel_rfl)
 have hKI:=@run_callFunc_extern Tryz.prog 192 _ (ReflectliteType.abiMethod fun t=>do pure (.int .u8 (← Rtype.kind t))) Tryz.func192 (by kernel_rfl) (by kernel_rfl) (by kernel_rfl) (by kernel_rfl)
 have hRE:=@run_callFunc_extern Tryz.prog 205 _ (ReflectliteType.method ReflectliteType.elem) Tryz.func205 (by kernel_rfl) (by kernel_rfl) (by kernel_rfl) (by kernel_rfl)
 have hRI := @run_callFunc_extern Tryz.prog 206 _ (ReflectliteType.relation "Implements" ReflectliteType.implements_) Tryz.func206 (by kernel_rfl) (by kernel_rfl) (by kernel_rfl) (by kernel_rfl)
 have hTO:=@run_callFunc_extern Tryz.prog 51 _ ReflectliteType.typeOf Tryz.func51 (by kernel_rfl) (by kernel_rfl) (by kernel_rfl) (by kernel_rfl)
 have hRA := @run_callFunc_extern Tryz.prog 203 _ (ReflectliteType.relation "AssignableTo" ReflectliteType.assignableTo) Tryz.func203 (by kernel_rfl) (by kernel_rfl) (by kernel_rfl) (by kernel_rfl)
 have hEL := @run_callFunc_extern Tryz.prog 103 _ (ReflectliteValue.method (ReflectliteValue.valueError "reflectlite.Value.Elem" 0) ReflectliteValue.elem) Tryz.func103 (by kernel_rfl) (by kernel_rfl) (by kernel_rfl) (by kernel_rfl)
 have hSE:=@run_callFunc_extern Tryz.prog 104 _ ReflectliteValue.set Tryz.func104 (by kernel_rfl) (by kernel_rfl) (by kernel_rfl) (by kernel_rfl)
 have f1:=typeOfN
 have u1:=typeOfP
 have u2:=asgnFE
 have u3:=lacksAsF
 have u4:=hasUF
 have u5:=methodUnw
 have f2:=methodAsgn
 have f3:=asgnEE
 have f4:=valueOfN
 have f5:=valueOfE
 have f6:=typeE
 have f7:=methodKind
 have f8:=methodElem
 have f9:=methodImpl
 have g1:=kindPE
 have g2:=kindE
 have g3:=elemPE
 have g4:=implE
 have n8:=isNilPE ⟨w.heap.size,0,none⟩ t ((w.alloc (.cells #[.pointer (some t)] 164)).alloc (.cells #[hdl 164,.pointer (some ⟨w.heap.size,0,none⟩),.int .u64 150] 147)) (by simp)
 have hlt:0 < w.heap.size:=by
  rcases Nat.lt_or_ge 0 w.heap.size with h | h
  ·exact h
  ·simp [World.cell?,Array.getElem?_eq_none h] at hg
 have hg2:((w.alloc (.cells #[.pointer (some t)] 164)).alloc (.cells #[hdl 164,.pointer (some ⟨w.heap.size,0,none⟩),.int .u64 150] 147)).cell? ⟨0,0,none⟩=some etV:=by
  rw [World.cell?_alloc_lt _ _ ⟨0,0,none⟩ (by first | (simp;done) | (simp;omega)),World.cell?_alloc_lt _ _ ⟨0,0,none⟩ hlt];exact hg
 have htl:t.block < w.heap.size:=by
  rcases Nat.lt_or_ge t.block w.heap.size with h | h
  ·exact h
  ·simp [World.cell?,Array.getElem?_eq_none h] at ht0
 have el:=elemVE ⟨w.heap.size,0,none⟩ t (behind w 164 t) (by rw [World.cell?_alloc_lt _ _ ⟨w.heap.size,0,none⟩ (by simp;omega)];simp)
 have st:=setE t ⟨w.heap.size + 1 + 1 + 1,0,none⟩ k old ((behind w 164 t).alloc (.cells #[.int .i64 k] 55))
  (by rw [World.cell?_alloc_at _ _ _ _ (by simp)];rfl)
  (by rw [World.cell?_alloc_lt _ _ t (by simp;omega),World.cell?_alloc_lt _ _ t (by simp;omega),World.cell?_alloc_lt _ _ t (by simp;omega),World.cell?_alloc_lt _ _ t htl];exact ht0)
  (by rw [World.frozen?_alloc_old _ _ t (by simp;omega),World.frozen?_alloc_old _ _ t (by simp;omega),World.frozen?_alloc_old _ _ t (by simp;omega),World.frozen?_alloc_old _ _ t (Nat.ne_of_lt htl)];exact hf0)
 have hql:q < w.heap.size:=by
  rcases Nat.lt_or_ge q w.heap.size with h | h
  ·exact h
  ·simp [World.cell?,Array.getElem?_eq_none h] at hq0
 have hcell:(behind w 164 t).cell? ⟨q,0 + 1,none⟩=some (.iface 55 (.int .i64 k)):=by
  rw [World.cell?_alloc_lt _ _ ⟨q,0 + 1,none⟩ (by simp;omega),World.cell?_alloc_lt _ _ ⟨q,0 + 1,none⟩ (by simp;omega),World.cell?_alloc_lt _ _ ⟨q,0 + 1,none⟩ hql];exact hq1
 have hcell':(behind w 164 t).cell? ⟨q,1,none⟩=some (.iface 55 (.int .i64 k)):=hcell
 go_enter Tryz.func26,Tryz.ntmps26
 go_wp2
 refine wp_loop_rounds 2 ?_
 rw [rounds_succ]
 go_wp2
 rw [rounds_succ]
 go_wp2
 go_ret
 exact ⟨rfl,_,_,_,_,rfl⟩
set_option maxHeartbeats 4000000 in
theorem as_ff (q:Nat) (t:Addr) (old:Value) (w:World) (hg:w.cell? ⟨0,0,none⟩=some etV) (ht0:w.cell? t=some old) (hf0:w.frozen? t=false) :
 Calls Tryz.prog 26 #[.iface 81 (.pointer (some ⟨q,0,none⟩)),.iface 83 (.pointer (some t))] w fun ev w'=>ev = .returned (.bool true)∧∃ o1 o2 o3 o4,w'=((((w.alloc o1).alloc o2).alloc o3).alloc o4).setCell t (.pointer (some ⟨q,0,none⟩)):=by
 have hVO:=@run_callFunc_extern Tryz.prog 60 _ (fun args=>ReflectliteValue.unpack (args.getD 0 (.tuple #[]))) Tryz.func60 (by kernel_rfl) (by kernel_rfl) (by kernel_rfl) (by kernel_rfl)
 have hTY := @run_callFunc_extern Tryz.prog 61 _ (ReflectliteValue.methodAny (ReflectliteValue.valueError "reflectlite.Value.Type" 0) (fun t _ _ _ => ReflectliteType.toType t)) Tryz.func61 (by kernel_rfl) (by kernel_rfl) (by kernel_rfl) (by kernel_rfl)
 have hIN := @run_callFunc_extern Tryz.prog 62 _ (ReflectliteValue.method (ReflectliteValue.valueError "reflectlite.Value.IsNil" 0) ReflectliteValue.isNil) Tryz.func62 (by kernel_rfl) (by kernel_rfl) (by kernel_rfl) (by kernel_rfl)
 have hKI:=@run_callFunc_extern Tryz.prog 192 _ (ReflectliteType.abiMethod fun t=>do pure (.int .u8 (← Rtype.kind t))) Tryz.func192 (by kernel_rfl) (by kernel_rfl) (by kernel_rfl) (by kernel_rfl)
 have hRE:=@run_callFunc_extern Tryz.prog 205 _ (ReflectliteType.method ReflectliteType.elem) Tryz.func205 (by kernel_rfl) (by kernel_rfl) (by kernel_rfl) (by kernel_rfl)
 have hRI := @run_callFunc_extern Tryz.prog 206 _ (ReflectliteType.relation "Implements" ReflectliteType.implements_) Tryz.func206 (by kernel_rfl) (by kernel_rfl) (by kernel_rfl) (by kernel_rfl)
 have hTO:=@run_callFunc_extern Tryz.prog 51 _ ReflectliteType.typeOf Tryz.func51 (by kernel_rfl) (by kernel_rfl) (by kernel_rfl) (by kernel_rfl)
 have hRA := @run_callFunc_extern Tryz.prog 203 _ (ReflectliteType.relation "AssignableTo" ReflectliteType.assignableTo) Tryz.func203 (by kernel_rfl) (by kernel_rfl) (by kernel_rfl) (by kernel_rfl)
 have hEL := @run_callFunc_extern Tryz.prog 103 _ (ReflectliteValue.method (ReflectliteValue.valueError "reflectlite.Value.Elem" 0) ReflectliteValue.elem) Tryz.func103 (by kernel_rfl) (by kernel_rfl) (by kernel_rfl) (by kernel_rfl)
 have hSE:=@run_callFunc_extern Tryz.prog 104 _ ReflectliteValue.set Tryz.func104 (by kernel_rfl) (by kernel_rfl) (by kernel_rfl) (by kernel_rfl)
 have f1:=typeOfP
 have f2:=methodAsgn
 have f3:=asgnFF
 have f4:=valueOfP
 have f5:=valueOfF
 have f6:=typeF
 have f7:=methodKind
 have f8:=methodElem
 have f9:=methodImpl
 have g1:=kindPPF
 have g2:=kindPF
 have g3:=elemPPF
 have g4:=implPF
 have n8:=isNilPPF ⟨w.heap.size,0,none⟩ t ((w.alloc (.cells #[.pointer (some t)] 83)).alloc (.cells #[hdl 83,.pointer (some ⟨w.heap.size,0,none⟩),.int .u64 150] 147)) (by simp)
 have hlt:0 < w.heap.size:=by
  rcases Nat.lt_or_ge 0 w.heap.size with h | h
  ·exact h
  ·simp [World.cell?,Array.getElem?_eq_none h] at hg
 have hg2:((w.alloc (.cells #[.pointer (some t)] 83)).alloc (.cells #[hdl 83,.pointer (some ⟨w.heap.size,0,none⟩),.int .u64 150] 147)).cell? ⟨0,0,none⟩=some etV:=by
  rw [World.cell?_alloc_lt _ _ ⟨0,0,none⟩ (by first | (simp;done) | (simp;omega)),World.cell?_alloc_lt _ _ ⟨0,0,none⟩ hlt];exact hg
 have htl:t.block < w.heap.size:=by
  rcases Nat.lt_or_ge t.block w.heap.size with h | h
  ·exact h
  ·simp [World.cell?,Array.getElem?_eq_none h] at ht0
 have el:=elemVF ⟨w.heap.size,0,none⟩ t (behind w 83 t) (by rw [World.cell?_alloc_lt _ _ ⟨w.heap.size,0,none⟩ (by simp;omega)];simp)
 have st:=setF t ⟨w.heap.size + 1 + 1 + 1,0,none⟩ ⟨q,0,none⟩ old ((behind w 83 t).alloc (.cells #[.pointer (some ⟨q,0,none⟩)] 81))
  (by rw [World.cell?_alloc_at _ _ _ _ (by simp)];rfl)
  (by rw [World.cell?_alloc_lt _ _ t (by simp;omega),World.cell?_alloc_lt _ _ t (by simp;omega),World.cell?_alloc_lt _ _ t (by simp;omega),World.cell?_alloc_lt _ _ t htl];exact ht0)
  (by rw [World.frozen?_alloc_old _ _ t (by simp;omega),World.frozen?_alloc_old _ _ t (by simp;omega),World.frozen?_alloc_old _ _ t (by simp;omega),World.frozen?_alloc_old _ _ t (Nat.ne_of_lt htl)];exact hf0)
 go_enter Tryz.func26,Tryz.ntmps26
 go_wp2
 refine wp_loop_rounds 1 ?_
 rw [rounds_succ]
 go_wp2
 go_ret
 exact ⟨rfl,_,_,_,_,rfl⟩
end Go.Proofs.YtpcgkiecjakknaaGreatDoor
