/- A part. -/
import Derived.Test.YtlfkjfonpacelaaGreatDoorFU
import Derived.Carry
import Derived.Lib.LaidTab
import Derived.Deep.SlicePairs
import Derived.Test.YtlfkjfonpacelaaGreatDoorChecked
import Derived.WalkKit
import Derived.LaidEql
import Derived.Stop.Asserts
import Derived.RowKitTokens
set_option linter.all false
set_option maxRecDepth 100000
set_option maxHeartbeats 16000000
namespace Mv
open Go
structure OkHt (M:Seat):Prop where
 t:OkTl M
 b:OkBg M
 l:OkHl M
 m:OkM M
 kx:OkI75 M
theorem Aqg (x:Int):∃ d:Nat,1≤d∧d≤5∧IntKind.i64.wrap (1 + (BitVec.ofInt 64 x % 5#64).toInt)=(d:Int):=by
 have h:(BitVec.ofInt 64 x % 5#64).toNat < 5:=by rw [BitVec.toNat_umod];exact Nat.mod_lt _ Aj
 generalize BitVec.ofInt 64 x % 5#64=y at h
 refine ⟨1 + y.toNat,by omega,by omega,?_⟩
 have e:(BitVec.ofNat 64 y.toNat)=y:=B1
 rcases (show y.toNat=0 ∨ y.toNat=1 ∨ y.toNat=2 ∨ y.toNat=3 ∨ y.toNat=4 by omega) with q | q | q | q | q <;> rw [q] at e <;> rw [← e] <;> rfl
theorem Ac3 {M:Seat} (ok:OkHt M) (v:V) (hvv:∀ H m z,Bk H m z v v) (m0:Mc) (w0:WS) (dp:Int) (aks:List (BitVec 64)) (av:V) (ha:av=Cz aks ∨ (av = .nils∧aks=[])) (hal:aks.length < 9223372036854775808)
 (hW:Af M 151 [v] [] 0 (Q3 (.ptr 0 []) [(0,mach m0.f m0.g m0.pc m0.hl m0.xt)] 1)) (hN:Af M 68 [] [] 0 (Q3 (.ptr 0 []) (AF w0 .nils []) 5)) (hPk:Cb w0.pres)
 (hF:Af M 122 [] [] 0 (Q3 (.bool true) [] 0)) :
 Af M 40 [v,.int .i64 dp,av] [] 0 (Q3 (.bool true) [] 0):=by
 have hav:∀ H m z,Bk H m z av av:=by
  intro H m z
  rcases ha with rfl | ⟨rfl,-⟩
  ·simp only [Cz,ws,LY,seval]
  ·simp only [LY,seval]
 obtain ⟨d,hd0,hd4,ed⟩:=Aqg dp
 have hT:=Kd ok.b.i.v.a.r.n m0.f m0.g m0.pc m0.hl m0.xt w0.pres d Aa
 simp only [AF,Jl] at hN
 simp only [CP,Ax,B4] at hT
 have hLn:=Mh ok.t.o ok.t.k72 w0
 simp only [I9] at hLn
 have hwd:Cz aks = .lst 1 aks.length (ws aks):=rfl
 refine Ab ok.t.r.k40 rfl fun x hx=>?_
 rcases ha with hav' | hav'
 all_goals
  refine es 2000 ?_;(simp only [f40,c40,LZ,seval])
  refine Er (hW) ?_ (hus:=⟨hvv _ _ _,trivial⟩) (hn:=by simp only [mach,LX,implies_true])
  (simp only [BA,As,seval])
  have zz:=CC @Ce @Ay @DW;refine Ia (hN) ?_
  (simp only [BA,Am,seval])
  refine Ai (hF) ?_
  (simp only [ed,LZ,seval])
  have zz:=@Ce;refine Qw [48,49,50,51,52] [48,49] (hLn) ?_
  (simp only [BA,As,seval])
  repeat refine sd ?_
  have zz:=CC @mach.eq_1 @Ce @Ay;refine Df [32,48,49,50,52] [32,48,49] (hT) ?_
  (simp only [Dq,As,Ba,Am,U2,hav',hwd,seval])
  refine An (σ:=Nat × Tr) (fun s=>s.1≤aks.length∧s.1≤6∧s.2.n≤1 + 2 * s.1∧Pts m0 w0.pres s.2.n s.2.ps) (fun s=>Ok w0.pres.length s.1 aks.length d av) (fun s=>DL m0 w0.pres d s.2) (fun _=>11) (fun s=>aks.length - s.1) (0,⟨1,fun _=>⟨0#64,m0,w0.pres,[],0,fun _=>Dg.zero⟩,w0,[],[]⟩) ⟨Nat.zero_le _,Nat.zero_le _,Nat.le_refl _,⟨Nat.zero_lt_one,rfl,fun j _=>by show 0 < 536870912;decide,fun j _=>rfl,fun j _=>hPk⟩⟩ ?_ ?_
  ·unfold Ok DL F8
   refine Ak.fr [32,48,49,50,51,52,432,656,659,657,658] [660,661,662,663] hx AQ Aj ?_ ?_
   ·simp only [hav',Cz,Int.natCast_zero,List.length_nil,hav,LY,seval]
   ·simp only [Ax,Aw,DX,Al,WH,AA,Ay,Cm,seval]
    intro j _
    exact Nr (P:=⟨0#64,m0,w0.pres,[],0,fun _=>Dg.zero⟩) rfl rfl rfl rfl rfl rfl rfl rfl rfl rfl rfl (by simp only [Ar])
  ·rintro ⟨i,t⟩ ⟨hi,hi6,hn,hp⟩
   dsimp only at hi hi6 hn hp ⊢
   exact Wy ok.t hPk hx aks av (by first | exact .inl hav' | exact .inr hav') hal d ⟨hd0,hd4⟩ i hi hi6 t hn hp fun t' A H N h1 h2 h3 h4 hw=>⟨(i + 1,t'),⟨h1,h2,h3,h4⟩,by dsimp only;omega,hw⟩
theorem HN {M:Seat} (ok:OkHt M) (hne:¬ BO.com=B3.com) (hd1:¬ BO.com=d1 1#8) (l:List In) (v:V) (hv:Aia l v) (hl:l.length < 9223372036854775808) (dp:Int) (aks:List (BitVec 64)) (av:V) (ha:av=Cz aks ∨ (av = .nils∧aks=[])) (hal:aks.length < 9223372036854775808) :
 Af M 40 [v,.int .i64 dp,av] [] 0 (Q3 (.bool true) [] 0):=by
 have hvv:∀ H m z,Bk H m z v v:=by
  intro H m z
  rcases hv with rfl | ⟨rfl,-⟩
  ·simp only [TW,LY,seval]
  ·simp only [LY,seval]
 exact Ac3 ok v hvv (ldM l) (Gv 16) dp aks av ha hal (NP ok.m ok.b.pI ok.kx ok.b.i.k151 l v hv hl) (PH ok.b.i.v.o.q.okA ok.b.i.v.o.q.ok.toOkS) (ME 16) (Of ok.l hne hd1)
def Jn (M:Seat) (W:World):Env where
 ρ:=fun _=>0
 D:=fun _=>False
 im:=fun b=>∃ cells el fz,W.heap[b]?=some (.cells cells el fz)
 w:=W
 φ:=M.φ
 τ:=M.τ
theorem Inv.start (M:Seat) (W:World) (hg:GS M (Jn M W)):Inv M ⟨Jn M W,fun b=>∃ id,Ac [] id=true∧(Jn M W).ρ id=b,0⟩ (Jn M W) [] where
 ev:=⟨rfl,rfl,rfl,Nat.le_refl _,fun _ _ _=>rfl,fun _=>Nat.le_refl _⟩
 blk:=fun id h=>by simp [Ac] at h
 inj:=fun i j h=>by simp [Ac] at h
 imo:=fun b h=>.inl h
 imb:=fun b h=>.inl h
 rb:=fun id h=>h.elim
 keep:=fun b h=>h
 low:=fun id h=>by simp at h
 gs:=hg
 φ:=rfl
 τ:=rfl
theorem Vf {M:Seat} {f:Nat} {us:List V} {vs:Array Value} {Q:V→Hp→Nat→Prop} (hr:Af M f us [] 0 Q) (W:World) (hg:GS M (Jn M W)) (ha:Pp (Jn M W) us vs) :
 Calls M.P (M.φ f) vs W fun en W'=>∃ x v H' k' e',en = .returned x∧RV e' v x∧Q v H' k'∧RowKit.Below W.heap.size W W':=by
 refine (hr (Jn M W) vs (Inv.start M W hg) (fun id _ h=>h) ha).mono ?_
 rintro en W' ⟨x,v,e',H',k',rfl,rfl,hI,hv,_,_,hQ⟩
 refine ⟨x,v,H',k',e',rfl,hv,hQ,hI.ev.os,hI.ev.tape,hI.ev.output,hI.ev.size,fun k hk=>hI.ev.frame k hk ?_⟩
 rintro ⟨id,h,_⟩
 simp [Ac] at h
theorem WR {M:Seat} {W:World} {name:String} {k:IntKind} {zs:List Int} {g:Nat} (h:Lib.TabIs M.P W name k zs) (hg:M.P.globalNamed name=some g) (hpos:0 < zs.length) :
 R (Jn M W) (.imm (.ar 1 zs.length (fun i=>.int k (zs.getD i 0)))) [.pointer (some ⟨g,0,none⟩)]:=by
 have hc:∀ i,i < zs.length→W.cell? ⟨g,i,none⟩=some (.int k (zs.getD i 0)):=fun i hi=>h.cell hg i hi
 have h0:=hc 0 hpos
 simp only [R]
 cases hb:W.heap[g]? with
 | none=>simp [World.cell?,hb] at h0
 | some o =>
   cases o with
   | cells c el fz =>
     have hci:∀ i,i < zs.length→c[i]?=some (.int k (zs.getD i 0)):=fun i hi=>by simpa [World.cell?,hb] using hc i hi
     have hsz:zs.length≤c.size:=by
      have:=hci (zs.length - 1) Aa
      have:=(Array.getElem?_eq_some_iff.1 this).1
      omega
     refine ⟨g,0,c,el,fz,rfl,⟨c,el,fz,hb⟩,hb,by simp only [V.size];omega,by simp [V.size];omega,fun i hi=>⟨⟨rfl,rfl⟩,?_⟩⟩
     simp only [V.size,Nat.mul_one,List.drop_zero]
     have h1:=hci i hi
     have h2:c.toList[i]?=some (.int k (zs.getD i 0)):=by simpa using h1
     apply List.ext_getElem?
     intro j
     cases j with
     | zero=>simp [List.getElem?_take,List.getElem?_drop,hi,h1]
     | succ j=>simp [List.getElem?_take]
   | _=>simp [World.cell?,hb] at h0
variable {M:Seat}
theorem Inv.garb {c:Ctx} {e:Env} {H:Hp} (h:Inv M c e H) (o:Obj):e.le { e with w:=e.w.alloc o }∧Inv M c { e with w:=e.w.alloc o } H:=by
 have hle:e.le { e with w:=e.w.alloc o }:=⟨fun i hi=>⟨hi,rfl⟩,fun b hb=>⟨hb,fun cl el fz hc=>⟨el,fz,by show (e.w.alloc o).heap[b]?=_;rw [AG _ _ (h.imlt b hb)];exact hc⟩,fun es ck hc=>by show (e.w.alloc o).heap[b]?=_;rw [AG _ _ (h.imlt b hb)];exact hc⟩,fun b=>Ez _ _ b,rfl,rfl⟩
 refine ⟨hle,?_,fun id hid=>?_,h.inj,h.imo,fun b hb=>?_,fun id hid=>?_,h.keep,h.low,h.gs.mono hle,h.φ,h.τ⟩
 ·exact h.ev.trans (O':=fun _=>False) ⟨rfl,rfl,rfl,by simp,fun b hb _=>AG _ _ hb,fun b=>Ez _ _ b⟩ (fun _ hf=>hf.elim)
 ·obtain ⟨h1,h2,h3,h4⟩:=h.blk id hid
  exact ⟨h1,Cd hle h1 (AG _ _ (h.rb id h1)) h2,h3,h4⟩
 ·rcases h.imb b hb with ⟨cells,el,fz,hc⟩ | ⟨es,ck,hc⟩
  ·exact .inl ⟨cells,el,fz,by show (e.w.alloc o).heap[b]?=_;rw [AG _ _ (h.imlt b hb)];exact hc⟩
  ·exact .inr ⟨es,ck,by show (e.w.alloc o).heap[b]?=_;rw [AG _ _ (h.imlt b hb)];exact hc⟩
 ·have:=h.rb id hid
  show e.ρ id < (e.w.alloc o).heap.size
  simp;omega
theorem Pd {c:Ctx} {e:Env} {H:Hp} (h:Inv M c e H) {b:Nat} {v:Value} (hr:(b,v) ∈ M.raw):e.w.cell? ⟨b,0,none⟩=some v:=by
 obtain ⟨_,cl,el,fz,h1,h2⟩:=h.gs.2 _ hr
 simp [World.cell?,h1,h2]
theorem VA {c:Ctx} {e:Env} {H:Hp} (h:Inv M c e H) {id:Nat} (hid:Ac H id=true) (hs:(hget H id).solid=true) (h1:(hget H id).size=1) :
 ∃ x cells el,R e (hget H id) [x]∧e.w.heap[e.ρ id]?=some (.cells cells el (0,0))∧0 < cells.size∧e.w.cell? ⟨e.ρ id,0,none⟩=some x∧e.w.frozen? ⟨e.ρ id,0,none⟩=false:=by
 obtain ⟨cells,el,hc,hsz,hR⟩:=h.cells hid hs
 rw [h1] at hsz hR
 have hlt:0 < cells.size:=Aa
 have e1:cells.toList.take 1=[cells[0]]:=by
  rcases cells with ⟨l⟩
  cases l with
  | nil=>simp at hlt
  | cons y r=>simp
 rw [e1] at hR
 refine ⟨cells[0],cells,el,hR,hc,hlt,?_,?_⟩
 ·simp [World.cell?,hc,hlt]
 ·simp [World.frozen?,hc]
theorem Afp {g:Nat} {gv:Value} (hg:(g,gv) ∈ M.raw)
 (h:∀ (n:Int) (t:Addr) (old:Value) (w:World),w.cell? ⟨g,0,none⟩=some gv→w.cell? t=some old→w.frozen? t=false →
  Calls M.P (M.φ 93) #[.iface (M.τ 74) (.int .i64 n),.iface (M.τ 394) (.pointer (some t))] w fun ev w'=>ev = .returned (.bool true)∧∃ o1 o2 o3 o4,w'=((((w.alloc o1).alloc o2).alloc o3).alloc o4).setCell t (.int .i64 n)) (a b:Int) :
 Af M 93 [erN a,.ifc 394 (.ptr 0 [])] [(0,.int .i64 b)] 1 (Q3 (.bool true) [(0,.int .i64 a)] 1):=by
 intro e vs hI hD ⟨hvs,hargs⟩
 obtain ⟨v0,v1,rfl⟩:∃ v0 v1,vs = #[v0,v1]:=by
  match vs,hvs with
  | ⟨[v0,v1]⟩,_=>exact ⟨v0,v1,rfl⟩
 have h0:=hargs 0
 have h1:=hargs 1
 simp only [List.getD_cons_zero,List.getD_cons_succ,RV,RS,V.isAgg,R,EU] at h0 h1
 obtain ⟨x0,k0,_,rfl⟩:=h0
 obtain ⟨x1,k1,_,_,rfl⟩:=h1
 have e0:v0 = .iface (M.τ 74) (.int .i64 a):=by rw [← hI.τ];simpa using k0
 have e1:v1 = .iface (M.τ 394) (.pointer (some ⟨e.ρ 0,0,none⟩)):=by rw [← hI.τ];simpa [Aq] using k1
 subst e0 e1
 obtain ⟨x,cells,el,hx,hc,hlt,hcell,hfz⟩:=VA hI (id:=0) rfl rfl rfl
 refine (h a ⟨e.ρ 0,0,none⟩ x e.w (Pd hI hg) hcell hfz).mono ?_
 rintro en w' ⟨rfl,o1,o2,o3,o4,rfl⟩
 obtain ⟨l1,I1⟩:=hI.garb o1
 obtain ⟨l2,I2⟩:=I1.garb o2
 obtain ⟨l3,I3⟩:=I2.garb o3
 obtain ⟨l4,I4⟩:=I3.garb o4
 have hr:e.ρ 0 < e.w.heap.size:=hI.rb 0 (hI.blk 0 rfl).1
 have hc4:((((e.w.alloc o1).alloc o2).alloc o3).alloc o4).heap[e.ρ 0]?=some (.cells cells el (0,0)):=by
  rw [AG _ _ EP,AG _ _ EP,AG _ _ EP,AG _ _ hr];exact hc
 obtain ⟨l5,I5⟩:=I4.row (id:=0) rfl hc4 (new:=cells.setIfInBounds 0 (.int .i64 a)) B1 (z:=.int .i64 a) rfl (by simp only [V.size,Array.size_setIfInBounds];omega) (by
  have:(cells.setIfInBounds 0 (Value.int .i64 a)).toList.take 1=[Value.int .i64 a]:=by
   rcases cells with ⟨l⟩
   cases l with
   | nil=>simp at hlt
   | cons y r=>simp
  show R _ (.int .i64 a) ((cells.setIfInBounds 0 (Value.int .i64 a)).toList.take 1)
  rw [this];simp only [R])
 rw [setCell_eq_setRow _ _ _ cells el (0,0) _ hc4]
 refine ⟨_,.bool true,_,[(0,.int .i64 a)],1,rfl,rfl,I5,?_,hD,Nat.le_refl _,rfl,rfl,rfl⟩
 simp [RV,RS,V.isAgg,R]
theorem Ahh {g:Nat} {gv:Value} (hg:(g,gv) ∈ M.raw)
 (h:∀ (n:Int) (t:Addr) (w:World),w.cell? ⟨g,0,none⟩=some gv →
  Calls M.P (M.φ 93) #[.iface (M.τ 74) (.int .i64 n),.iface (M.τ 147) (.pointer (some t))] w fun ev w'=>ev = .returned (.bool false)∧∃ o1 o2 o3,w'=((w.alloc o1).alloc o2).alloc o3) (a:Int) :
 Af M 93 [erN a,.ifc 147 (.ptr 0 [])] [(0,.nilp)] 1 (Q3 (.bool false) [(0,.nilp)] 1):=by
 intro e vs hI hD ⟨hvs,hargs⟩
 obtain ⟨v0,v1,rfl⟩:∃ v0 v1,vs = #[v0,v1]:=by
  match vs,hvs with
  | ⟨[v0,v1]⟩,_=>exact ⟨v0,v1,rfl⟩
 have h0:=hargs 0
 have h1:=hargs 1
 simp only [List.getD_cons_zero,List.getD_cons_succ,RV,RS,V.isAgg,R,EU] at h0 h1
 obtain ⟨x0,k0,_,rfl⟩:=h0
 obtain ⟨x1,k1,_,_,rfl⟩:=h1
 have e0:v0 = .iface (M.τ 74) (.int .i64 a):=by rw [← hI.τ];simpa using k0
 have e1:v1 = .iface (M.τ 147) (.pointer (some ⟨e.ρ 0,0,none⟩)):=by rw [← hI.τ];simpa [Aq] using k1
 subst e0 e1
 refine (h a ⟨e.ρ 0,0,none⟩ e.w (Pd hI hg)).mono ?_
 rintro en w' ⟨rfl,o1,o2,o3,rfl⟩
 obtain ⟨l1,I1⟩:=hI.garb o1
 obtain ⟨l2,I2⟩:=I1.garb o2
 obtain ⟨l3,I3⟩:=I2.garb o3
 refine ⟨_,.bool false,_,[(0,.nilp)],1,rfl,rfl,I3,?_,hD,Nat.le_refl _,rfl,rfl,rfl⟩
 simp [RV,RS,V.isAgg,R]
end Mv
namespace Go.Proofs.YtlfkjfonpacelaaGreatDoor
open Go Go.RowKit Go.Extern.Stop Go.Stop Go.Extern
abbrev hdl (t:Nat):Value:=.pointer (some ⟨6,t,none⟩)
abbrev rvl (t:Nat) (b:Addr) (fl:Int):Value:=.agg #[hdl t,.pointer (some b),.int .u64 fl]
theorem rlmA (z:Sem Value) (f:TypeId→Addr→Nat→Nat→Sem Value) (v:Value) :
 ReflectliteValue.method z f #[v]=(do match ← ReflectliteValue.parts v with | none=>z | some (t,a,fl)=>f t a fl (fl % 32)):=rfl
theorem valueOfE (t:Addr) (w:World):(ReflectliteValue.unpack (.iface 249 (.pointer (some t)))).run Tryz.prog w = .ok (rvl 249 ⟨w.heap.size,0,none⟩ 150) (w.alloc (.cells #[.pointer (some t)] 249)):=by kernel_rfl
theorem valueOfF (t:Addr) (w:World):(ReflectliteValue.unpack (.iface 251 (.pointer (some t)))).run Tryz.prog w = .ok (rvl 251 ⟨w.heap.size,0,none⟩ 150) (w.alloc (.cells #[.pointer (some t)] 251)):=by kernel_rfl
theorem valueOfN (a:Int) (w:World):(ReflectliteValue.unpack (.iface 68 (.int .i64 a))).run Tryz.prog w = .ok (rvl 68 ⟨w.heap.size,0,none⟩ 130) (w.alloc (.cells #[.int .i64 a] 68)):=by kernel_rfl
theorem typeE (a : Addr) (w : World) : (ReflectliteValue.methodAny (ReflectliteValue.valueError "reflectlite.Value.Type" 0) (fun t _ _ _ => ReflectliteType.toType t) #[rvl 249 a 150]).run Tryz.prog w = .ok (.iface 219 (.agg #[hdl 249])) w := by kernel_rfl
theorem typeF (a : Addr) (w : World) : (ReflectliteValue.methodAny (ReflectliteValue.valueError "reflectlite.Value.Type" 0) (fun t _ _ _ => ReflectliteType.toType t) #[rvl 251 a 150]).run Tryz.prog w = .ok (.iface 219 (.agg #[hdl 251])) w := by kernel_rfl
theorem methodKind (h : Value) (w : World) : (Go.method 468 219 (.agg #[h]) "Kind").run Tryz.prog w = .ok (169, h) w := by kernel_rfl
theorem methodElem (h : Value) (w : World) : (Go.method 468 219 (.agg #[h]) "Elem").run Tryz.prog w = .ok (185, .agg #[h]) w := by kernel_rfl
theorem methodImpl (h : Value) (w : World) : (Go.method 468 219 (.agg #[h]) "Implements").run Tryz.prog w = .ok (186, .agg #[h]) w := by kernel_rfl
theorem methodAsgn (h : Value) (w : World) : (Go.method 468 219 (.agg #[h]) "AssignableTo").run Tryz.prog w = .ok (183, .agg #[h]) w := by kernel_rfl
theorem kindPE (w:World):((ReflectliteType.abiMethod fun t=>(fun a:Nat=>Value.int IntKind.u8 (a:Int)) <$> Rtype.kind t) #[hdl 249]).run Tryz.prog w = .ok (.int .u8 22) w:=by kernel_rfl
theorem kindE (w:World):((ReflectliteType.abiMethod fun t=>(fun a:Nat=>Value.int IntKind.u8 (a:Int)) <$> Rtype.kind t) #[hdl 68]).run Tryz.prog w = .ok (.int .u8 2) w:=by kernel_rfl
theorem kindPPF (w:World):((ReflectliteType.abiMethod fun t=>(fun a:Nat=>Value.int IntKind.u8 (a:Int)) <$> Rtype.kind t) #[hdl 251]).run Tryz.prog w = .ok (.int .u8 22) w:=by kernel_rfl
theorem kindPF (w:World):((ReflectliteType.abiMethod fun t=>(fun a:Nat=>Value.int IntKind.u8 (a:Int)) <$> Rtype.kind t) #[hdl 250]).run Tryz.prog w = .ok (.int .u8 22) w:=by kernel_rfl
theorem elemPE (w:World):(ReflectliteType.method ReflectliteType.elem #[.agg #[hdl 249]]).run Tryz.prog w = .ok (.iface 219 (.agg #[hdl 68])) w:=by kernel_rfl
theorem elemPPF (w:World):(ReflectliteType.method ReflectliteType.elem #[.agg #[hdl 251]]).run Tryz.prog w = .ok (.iface 219 (.agg #[hdl 250])) w:=by kernel_rfl
theorem implE (w : World) : (ReflectliteType.relation "Implements" ReflectliteType.implements_ #[.agg #[hdl 68], .iface 219 (.agg #[hdl 30])]).run Tryz.prog w = .ok (.bool true) w := by kernel_rfl
theorem implPF (w : World) : (ReflectliteType.relation "Implements" ReflectliteType.implements_ #[.agg #[hdl 250], .iface 219 (.agg #[hdl 30])]).run Tryz.prog w = .ok (.bool true) w := by kernel_rfl
theorem typeOfN (v:Value) (w:World):(ReflectliteType.typeOf #[.iface 68 v]).run Tryz.prog w = .ok (.iface 219 (.agg #[hdl 68])) w:=by kernel_rfl
theorem asgnEE (w : World) : (ReflectliteType.relation "AssignableTo" ReflectliteType.assignableTo #[.agg #[hdl 68], .iface 219 (.agg #[hdl 68])]).run Tryz.prog w = .ok (.bool true) w := by kernel_rfl
theorem asgnEF (w : World) : (ReflectliteType.relation "AssignableTo" ReflectliteType.assignableTo #[.agg #[hdl 68], .iface 219 (.agg #[hdl 250])]).run Tryz.prog w = .ok (.bool false) w := by kernel_rfl
theorem partsPE (a:Addr) (w:World):(ReflectliteValue.parts (rvl 249 a 150)).run Tryz.prog w = .ok (some (249,a,150)) w:=by kernel_rfl
theorem partsPPF (a:Addr) (w:World):(ReflectliteValue.parts (rvl 251 a 150)).run Tryz.prog w = .ok (some (251,a,150)) w:=by kernel_rfl
theorem partsEa (a:Addr) (w:World):(ReflectliteValue.parts (rvl 68 a 386)).run Tryz.prog w = .ok (some (68,a,386)) w:=by kernel_rfl
theorem partsE (a:Addr) (w:World):(ReflectliteValue.parts (rvl 68 a 130)).run Tryz.prog w = .ok (some (68,a,130)) w:=by kernel_rfl
theorem isNilPE (a p:Addr) (W:World) (ha:W.cell? a=some (.pointer (some p))) :
 (ReflectliteValue.method (ReflectliteValue.valueError "reflectlite.Value.IsNil" 0) ReflectliteValue.isNil #[rvl 249 a 150]).run Tryz.prog W = .ok (.bool false) W := by
 rw [rlmA]
 simp only [Sem.run_bind,partsPE,Result.andThen]
 simp [ReflectliteValue.isNil,loadVar,isAgg,underlying,Tryz.underlying249,ha,Result.andThen]
theorem isNilPPF (a p:Addr) (W:World) (ha:W.cell? a=some (.pointer (some p))) :
 (ReflectliteValue.method (ReflectliteValue.valueError "reflectlite.Value.IsNil" 0) ReflectliteValue.isNil #[rvl 251 a 150]).run Tryz.prog W = .ok (.bool false) W := by
 rw [rlmA]
 simp only [Sem.run_bind,partsPPF,Result.andThen]
 simp [ReflectliteValue.isNil,loadVar,isAgg,underlying,Tryz.underlying251,ha,Result.andThen]
theorem elemOfPE (w:World):(Rtype.elem? 249).run Tryz.prog w = .ok (some 68) w:=by kernel_rfl
theorem mkE (p:Addr) (w:World):(ReflectliteValue.mk 68 p ReflectliteValue.flagAddr).run Tryz.prog w = .ok (rvl 68 p 386) w:=by kernel_rfl
theorem elemVE (a p:Addr) (W:World) (ha:W.cell? a=some (.pointer (some p))) :
 (ReflectliteValue.method (ReflectliteValue.valueError "reflectlite.Value.Elem" 0) ReflectliteValue.elem #[rvl 249 a 150]).run Tryz.prog W = .ok (rvl 68 p 386) W := by
 rw [rlmA]
 simp only [Sem.run_bind,partsPE,Result.andThen]
 simp [ReflectliteValue.elem,loadVar,isAgg,underlying,Tryz.underlying249,ha,Result.andThen,elemOfPE,mkE]
theorem rlsA (v x:Value):ReflectliteValue.set #[v,x]=(do
 let (some (dst,a,fl),some (src,b,_)):=(← ReflectliteValue.parts v,← ReflectliteValue.parts x)
  | unsupported (.noEntry "extern/(internal/reflectlite.Value).Set.zeroValue")
 if fl / ReflectliteValue.flagAddr % 2 == 0 then unsupported (.noEntry "extern/(internal/reflectlite.Value).Set.unaddressable")
 let val ← loadVar src b
 if ← Rtype.directlyAssignable dst src then storeVar dst a val
 else if ← Rtype.implements dst src then
  if (← Rtype.kind src) == 20 then
   match val with
   | .nilIface => unsupported (.noEntry "extern/reflectlite: a nil value of one interface type handed on as a value of another")
   | _=>storeVar dst a val
  else storeVar dst a (.iface src val)
 else panicString ("reflectlite.Set: value of type " ++ (← Rtype.spelt src) ++ " is not assignable to type " ++ (← Rtype.spelt dst))
 pure (.tuple #[])):=rfl
theorem directE (w:World):(Rtype.directlyAssignable 68 68).run Tryz.prog w = .ok true w:=by kernel_rfl
theorem setE (ta b:Addr) (n:Int) (old:Value) (W:World) (hb:W.cell? b=some (.int .i64 n)) (ht:W.cell? ta=some old) (hf:W.frozen? ta=false) :
 (ReflectliteValue.set #[rvl 68 ta 386,rvl 68 b 130]).run Tryz.prog W = .ok (.tuple #[]) (W.setCell ta (.int .i64 n)):=by
 rw [rlsA]
 simp only [Sem.run_bind,partsEa,partsE,Result.andThen]
 simp [ReflectliteValue.flagAddr,loadVar,isAgg,underlying,Tryz.underlying68,hb,Result.andThen,directE,storeVar,Value.cells,storeCells,Addr.add]
 rw [run_store Tryz.prog W ta _ _ (by rfl)]
 simp [ht,hf]
theorem lacksAs (v:Value) (xT:TypeId) (w:World):(Instr.typeAssert (.iface 68 v) xT 314 true).run Tryz.prog w = .ok (.tuple #[.nilIface,.bool false]) w:=run_typeAssert_lacksB Tryz.underlying314 (by kernel_rfl) (by kernel_rfl) v xT w
theorem lacksU (v:Value) (xT:TypeId) (w:World):(Instr.typeAssert (.iface 68 v) xT 224 true).run Tryz.prog w = .ok (.tuple #[.nilIface,.bool false]) w:=run_typeAssert_lacksB Tryz.underlying224 (by kernel_rfl) (by kernel_rfl) v xT w
theorem lacksUs (v:Value) (xT:TypeId) (w:World):(Instr.typeAssert (.iface 68 v) xT 226 true).run Tryz.prog w = .ok (.tuple #[.nilIface,.bool false]) w:=run_typeAssert_lacksB Tryz.underlying226 (by kernel_rfl) (by kernel_rfl) v xT w
abbrev etV:Value:=.iface 219 (.agg #[hdl 30])
abbrev behind (w:World) (t:Nat) (a:Addr):World :=
 ((w.alloc (.cells #[.pointer (some a)] t)).alloc (.cells #[hdl t,.pointer (some ⟨w.heap.size,0,none⟩),.int .u64 150] 293)).alloc (.cells #[hdl t,.pointer (some ⟨w.heap.size,0,none⟩),.int .u64 150] 293)
set_option maxHeartbeats 4000000 in
theorem as_num (n:Int) (t:Addr) (old:Value) (w:World) (hg:w.cell? ⟨0,0,none⟩=some etV) (ht0:w.cell? t=some old) (hf0:w.frozen? t=false) :
 Calls Tryz.prog 114 #[.iface 68 (.int .i64 n),.iface 249 (.pointer (some t))] w fun ev w'=>ev = .returned (.bool true)∧w'=((behind w 249 t).alloc (.cells #[.int .i64 n] 68)).setCell t (.int .i64 n):=by
 have hVO:=@run_callFunc_extern Tryz.prog 140 _ (fun args=>ReflectliteValue.unpack (args.getD 0 (.tuple #[]))) Tryz.func140 (by kernel_rfl) (by kernel_rfl) (by kernel_rfl) (by kernel_rfl)
 have hTY := @run_callFunc_extern Tryz.prog 141 _ (ReflectliteValue.methodAny (ReflectliteValue.valueError "reflectlite.Value.Type" 0) (fun t _ _ _ => ReflectliteType.toType t)) Tryz.func141 (by kernel_rfl) (by kernel_rfl) (by kernel_rfl) (by kernel_rfl)
 have hIN := @run_callFunc_extern Tryz.prog 142 _ (ReflectliteValue.method (ReflectliteValue.valueError "reflectlite.Value.IsNil" 0) ReflectliteValue.isNil) Tryz.func142 (by kernel_rfl) (by kernel_rfl) (by kernel_rfl) (by kernel_rfl)
 have hKI:=@run_callFunc_extern Tryz.prog 169 _ (ReflectliteType.abiMethod fun t=>do pure (.int .u8 (← Rtype.kind t))) Tryz.func169 (by kernel_rfl) (by kernel_rfl) (by kernel_rfl) (by kernel_rfl)
 have hRE:=@run_callFunc_extern Tryz.prog 185 _ (ReflectliteType.method ReflectliteType.elem) Tryz.func185 (by kernel_rfl) (by kernel_rfl) (by kernel_rfl) (by kernel_rfl)
 have hRI := @run_callFunc_extern Tryz.prog 186 _ (ReflectliteType.relation "Implements" ReflectliteType.implements_) Tryz.func186 (by kernel_rfl) (by kernel_rfl) (by kernel_rfl) (by kernel_rfl)
 have hTO:=@run_callFunc_extern Tryz.prog 60 _ ReflectliteType.typeOf Tryz.func60 (by kernel_rfl) (by kernel_rfl) (by kernel_rfl) (by kernel_rfl)
 have hRA := @run_callFunc_extern Tryz.prog 183 _ (ReflectliteType.relation "AssignableTo" ReflectliteType.assignableTo) Tryz.func183 (by kernel_rfl) (by kernel_rfl) (by kernel_rfl) (by kernel_rfl)
 have hEL := @run_callFunc_extern Tryz.prog 151 _ (ReflectliteValue.method (ReflectliteValue.valueError "reflectlite.Value.Elem" 0) ReflectliteValue.elem) Tryz.func151 (by kernel_rfl) (by kernel_rfl) (by kernel_rfl) (by kernel_rfl)
 have hSE:=@run_callFunc_extern Tryz.prog 152 _ ReflectliteValue.set Tryz.func152 (by kernel_rfl) (by kernel_rfl) (by kernel_rfl) (by kernel_rfl)
 have f1:=typeOfN
 have f2:=methodAsgn
 have f3:=asgnEE
 have f4:=valueOfN
 have f5:=valueOfE
 have f6:=typeE
 have f7:=methodKind
 have f8:=methodElem
 have f9:=methodImpl
 have g1:=kindPE
 have g2:=kindE
 have g3:=elemPE
 have g4:=implE
 have n8:=isNilPE ⟨w.heap.size,0,none⟩ t ((w.alloc (.cells #[.pointer (some t)] 249)).alloc (.cells #[hdl 249,.pointer (some ⟨w.heap.size,0,none⟩),.int .u64 150] 293)) (by simp)
 have hlt:0 < w.heap.size:=by
  rcases Nat.lt_or_ge 0 w.heap.size with h | h
  ·exact h
  ·simp [World.cell?,Array.getElem?_eq_none h] at hg
 have hg2:((w.alloc (.cells #[.pointer (some t)] 249)).alloc (.cells #[hdl 249,.pointer (some ⟨w.heap.size,0,none⟩),.int .u64 150] 293)).cell? ⟨0,0,none⟩=some etV:=by
  rw [World.cell?_alloc_lt _ _ ⟨0,0,none⟩ (by first | (simp;done) | (simp;omega)),World.cell?_alloc_lt _ _ ⟨0,0,none⟩ hlt];exact hg
 have htl:t.block < w.heap.size:=by
  rcases Nat.lt_or_ge t.block w.heap.size with h | h
  ·exact h
  ·simp [World.cell?,Array.getElem?_eq_none h] at ht0
 have el:=elemVE ⟨w.heap.size,0,none⟩ t (behind w 249 t) (by rw [World.cell?_alloc_lt _ _ ⟨w.heap.size,0,none⟩ (by simp;omega)];simp)
 have st:=setE t ⟨w.heap.size + 1 + 1 + 1,0,none⟩ n old ((behind w 249 t).alloc (.cells #[.int .i64 n] 68))
  (by rw [World.cell?_alloc_at _ _ _ _ (by simp)];rfl)
  (by rw [World.cell?_alloc_lt _ _ t (by simp;omega),World.cell?_alloc_lt _ _ t (by simp;omega),World.cell?_alloc_lt _ _ t (by simp;omega),World.cell?_alloc_lt _ _ t htl];exact ht0)
  (by rw [World.frozen?_alloc_old _ _ t (by simp;omega),World.frozen?_alloc_old _ _ t (by simp;omega),World.frozen?_alloc_old _ _ t (by simp;omega),World.frozen?_alloc_old _ _ t (Nat.ne_of_lt htl)];exact hf0)
 go_enter Tryz.func114,Tryz.ntmps114
 go_wp2
 refine wp_loop_rounds 1 ?_
 rw [rounds_succ]
 go_wp2
 go_ret
 exact ⟨rfl,rfl⟩
set_option maxHeartbeats 4000000 in
theorem as_miss (n:Int) (t:Addr) (w:World) (hg:w.cell? ⟨0,0,none⟩=some etV) :
 Calls Tryz.prog 114 #[.iface 68 (.int .i64 n),.iface 251 (.pointer (some t))] w fun ev w'=>ev = .returned (.bool false)∧w'=behind w 251 t:=by
 have hVO:=@run_callFunc_extern Tryz.prog 140 _ (fun args=>ReflectliteValue.unpack (args.getD 0 (.tuple #[]))) Tryz.func140 (by kernel_rfl) (by kernel_rfl) (by kernel_rfl) (by kernel_rfl)
 have hTY := @run_callFunc_extern Tryz.prog 141 _ (ReflectliteValue.methodAny (ReflectliteValue.valueError "reflectlite.Value.Type" 0) (fun t _ _ _ => ReflectliteType.toType t)) Tryz.func141 (by kernel_rfl) (by kernel_rfl) (by kernel_rfl) (by kernel_rfl)
 have hIN := @run_callFunc_extern Tryz.prog 142 _ (ReflectliteValue.method (ReflectliteValue.valueError "reflectlite.Value.IsNil" 0) ReflectliteValue.isNil) Tryz.func142 (by kernel_rfl) (by kernel_rfl) (by kernel_rfl) (by kernel_rfl)
 have hKI:=@run_callFunc_extern Tryz.prog 169 _ (ReflectliteType.abiMethod fun t=>do pure (.int .u8 (← Rtype.kind t))) Tryz.func169 (by kernel_rfl) (by kernel_rfl) (by kernel_rfl) (by kernel_rfl)
 have hRE:=@run_callFunc_extern Tryz.prog 185 _ (ReflectliteType.method ReflectliteType.elem) Tryz.func185 (by kernel_rfl) (by kernel_rfl) (by kernel_rfl) (by kernel_rfl)
 have hRI := @run_callFunc_extern Tryz.prog 186 _ (ReflectliteType.relation "Implements" ReflectliteType.implements_) Tryz.func186 (by kernel_rfl) (by kernel_rfl) (by kernel_rfl) (by kernel_rfl)
 have hTO:=@run_callFunc_extern Tryz.prog 60 _ ReflectliteType.typeOf Tryz.func60 (by kernel_rfl) (by kernel_rfl) (by kernel_rfl) (by kernel_rfl)
 have hRA := @run_callFunc_extern Tryz.prog 183 _ (ReflectliteType.relation "AssignableTo" ReflectliteType.assignableTo) Tryz.func183 (by kernel_rfl) (by kernel_rfl) (by kernel_rfl) (by kernel_rfl)
 have f1:=typeOfN
 have f2:=methodAsgn
 have f3:=asgnEF
 have f4:=valueOfN
 have f5:=valueOfF
 have f6:=typeF
 have f7:=methodKind
 have f8:=methodElem
 have f9:=methodImpl
 have g1:=kindPPF
 have g2:=kindPF
 have g3:=elemPPF
 have g4:=implPF
 have n8:=isNilPPF ⟨w.heap.size,0,none⟩ t ((w.alloc (.cells #[.pointer (some t)] 251)).alloc (.cells #[hdl 251,.pointer (some ⟨w.heap.size,0,none⟩),.int .u64 150] 293)) (by simp)
 have hlt:0 < w.heap.size:=by
  rcases Nat.lt_or_ge 0 w.heap.size with h | h
  ·exact h
  ·simp [World.cell?,Array.getElem?_eq_none h] at hg
 have hg2:((w.alloc (.cells #[.pointer (some t)] 251)).alloc (.cells #[hdl 251,.pointer (some ⟨w.heap.size,0,none⟩),.int .u64 150] 293)).cell? ⟨0,0,none⟩=some etV:=by
  rw [World.cell?_alloc_lt _ _ ⟨0,0,none⟩ (by first | (simp;done) | (simp;omega)),World.cell?_alloc_lt _ _ ⟨0,0,none⟩ hlt];exact hg
 have l1:=lacksAs
 have l2:=lacksU
 have l3:=lacksUs
 go_enter Tryz.func114,Tryz.ntmps114
 go_wp2
 refine wp_loop_rounds 1 ?_
 rw [rounds_succ]
 go_wp2
 go_ret
 exact ⟨rfl,rfl⟩
end Go.Proofs.YtlfkjfonpacelaaGreatDoor
