/- A part. -/
import Derived.Test.YtfljfijnobocoaaDoorDM
import Derived.Test.YtfljfijnobocoaaDoorChecked
import Derived.WalkKit
import Derived.LaidEql
import Derived.Stop.Asserts
import Derived.RowKitTokens
import Derived.Carry
import Derived.Lib.LaidTab
import Derived.Deep.SlicePairs
import Derived.Test.YtfljfijnobocoaaDoorRows
import Derived.KernelRfl
import Derived.SizedLaws
set_option linter.all false
set_option maxRecDepth 200000
namespace Go.Proofs.YtfljfijnobocoaaDoor
open Go Go.RowKit Go.Extern.Stop Go.Stop Go.Extern
theorem isTypeOf (v:Value) (w:World):(Extern.ReflectliteType.typeOf #[.iface 55 v]).run Tryd.prog w = .ok (.iface 107 (.agg #[.pointer (some ⟨5,55,none⟩)])) w:=by kernel_rfl
def cmpM : Array Value → Sem Value := Extern.ReflectliteType.method fun t => do Extern.Rtype.noPackHeld "Comparable" t; pure (.bool (← typeInfo t).comparable)
theorem isComparable (w:World):(cmpM #[.agg #[.pointer (some ⟨5,55,none⟩)]]).run Tryd.prog w = .ok (.bool true) w:=by kernel_rfl
theorem isMethod (v : Value) (w : World) : (Go.method 318 107 v "Comparable").run Tryd.prog w = .ok (113, v) w := by kernel_rfl
theorem noIs (v:Value) (xT:TypeId) (w:World):(Instr.typeAssert (.iface 55 v) xT 109 true).run Tryd.prog w = .ok (.tuple #[.nilIface,.bool false]) w:=run_typeAssert_lacksB Tryd.underlying109 (by kernel_rfl) (by kernel_rfl) v xT w
theorem noUnwrap (v:Value) (xT:TypeId) (w:World):(Instr.typeAssert (.iface 55 v) xT 112 true).run Tryd.prog w = .ok (.tuple #[.nilIface,.bool false]) w:=run_typeAssert_lacksB Tryd.underlying112 (by kernel_rfl) (by kernel_rfl) v xT w
theorem noUnwraps (v:Value) (xT:TypeId) (w:World):(Instr.typeAssert (.iface 55 v) xT 114 true).run Tryd.prog w = .ok (.tuple #[.nilIface,.bool false]) w:=run_typeAssert_lacksB Tryd.underlying114 (by kernel_rfl) (by kernel_rfl) v xT w
theorem isComp:(Tryd.prog.info? 55).map (·.comparable)=some true:=by kernel_rfl
theorem eql_errno (a b:Int) (w:World):(binOp .eql 49 (.iface 55 (.int .i64 a)) (.iface 55 (.int .i64 b))).run Tryd.prog w = .ok (.bool (decide (a=b))) w:=by
 obtain ⟨i,hi,hcmp⟩:=Option.map_eq_some_iff.1 isComp
 have h1:∀ d:Nat,(Op.equalIn (d + 1) 55 (.int .i64 a) (.int .i64 b)).run Tryd.prog w = .ok (decide (a=b)) w:=fun d=>by
  simp only [Op.equalIn,Sem.run_bind,run_underlying Tryd.underlying55,Result.andThen_ok,if_true,Sem.run_pure]
  congr 1
 have h:∀ d:Nat,(Op.equalIn (d + 2) 49 (.iface 55 (.int .i64 a)) (.iface 55 (.int .i64 b))).run Tryd.prog w = .ok (decide (a=b)) w:=fun d=>by
  have:=h1 d
  simp [Op.equalIn,run_underlying Tryd.underlying49,typeInfo,hi,hcmp] at this ⊢
  exact this
 simp only [binOp]
 simp [Op.equal,Op.maxDepth,h 9998]
theorem is_errno' (a b:Int) (c:Bool) (hc:decide (a=b)=c) (w:World) :
 Calls Tryd.prog 15 #[.iface 55 (.int .i64 a),.iface 55 (.int .i64 b)] w fun e w'=>e = .returned (.bool c)∧w'=w:=by
 have h8:=@run_callFunc_extern Tryd.prog 27 _ Extern.ReflectliteType.typeOf Tryd.func27 (by kernel_rfl) (by kernel_rfl) (by kernel_rfl) (by kernel_rfl)
 have h32:=@run_callFunc_extern Tryd.prog 113 _ cmpM Tryd.func113 (by kernel_rfl) (by kernel_rfl) (by kernel_rfl) (by kernel_rfl)
 have tT:=isTypeOf
 have cT:=isComparable
 have mR:=isMethod
 have nE:=noIs
 have uE:=noUnwrap
 have vE:=noUnwraps
 have heq:=eql_errno a b w
 rw [hc] at heq
 clear hc
 cases c
 ·go_enter Tryd.func15,Tryd.ntmps15
  go_wp2
  refine wp_loop_rounds 1 ?_
  rw [rounds_succ]
  go_wp2
  go_ret
  exact ⟨rfl,rfl⟩
 ·go_enter Tryd.func15,Tryd.ntmps15
  go_wp2
  refine wp_loop_rounds 1 ?_
  rw [rounds_succ]
  go_wp2
  go_ret
  exact ⟨rfl,rfl⟩
end Go.Proofs.YtfljfijnobocoaaDoor
namespace Mv
open Go
def Ako (M:Seat) (W:World):Env where
 ρ:=fun _=>0
 D:=fun _=>False
 im:=fun b=>∃ cells el fz,W.heap[b]?=some (.cells cells el fz)
 w:=W
 φ:=M.φ
 τ:=M.τ
theorem Inv.start (M:Seat) (W:World) (hg:GS M (Ako M W)):Inv M ⟨Ako M W,fun b=>∃ id,Af [] id=true∧(Ako M W).ρ id=b,0⟩ (Ako M W) [] where
 ev:=⟨rfl,rfl,rfl,Nat.le_refl _,fun _ _ _=>rfl,fun _=>Nat.le_refl _⟩
 blk:=fun id h=>by simp [Af] at h
 inj:=fun i j h=>by simp [Af] at h
 imo:=fun b h=>.inl h
 imb:=fun b h=>.inl h
 rb:=fun id h=>h.elim
 keep:=fun b h=>h
 low:=fun id h=>by simp at h
 gs:=hg
 φ:=rfl
 τ:=rfl
theorem DP {M:Seat} {f:Nat} {us:List V} {vs:Array Value} {Q:V→Hp→Nat→Prop} (hr:Ag M f us [] 0 Q) (W:World) (hg:GS M (Ako M W)) (ha:HN (Ako M W) us vs) :
 Calls M.P (M.φ f) vs W fun en W'=>∃ x v H' k' e',en = .returned x∧RV e' v x∧Q v H' k'∧RowKit.Below W.heap.size W W':=by
 refine (hr (Ako M W) vs (Inv.start M W hg) (fun id _ h=>h) ha).mono ?_
 rintro en W' ⟨x,v,e',H',k',rfl,rfl,hI,hv,_,_,hQ⟩
 refine ⟨x,v,H',k',e',rfl,hv,hQ,hI.ev.os,hI.ev.tape,hI.ev.output,hI.ev.size,fun k hk=>hI.ev.frame k hk ?_⟩
 rintro ⟨id,h,_⟩
 simp [Af] at h
theorem Dk {M:Seat} {W:World} {name:String} {k:IntKind} {zs:List Int} {g:Nat} (h:Lib.TabIs M.P W name k zs) (hg:M.P.globalNamed name=some g) (hpos:0 < zs.length) :
 R (Ako M W) (.imm (.ar 1 zs.length (fun i=>.int k (zs.getD i 0)))) [.pointer (some ⟨g,0,none⟩)]:=by
 have hc:∀ i,i < zs.length→W.cell? ⟨g,i,none⟩=some (.int k (zs.getD i 0)):=fun i hi=>h.cell hg i hi
 have h0:=hc 0 hpos
 simp only [R]
 cases hb:W.heap[g]? with
 | none=>simp [World.cell?,hb] at h0
 | some o =>
   cases o with
   | cells c el fz =>
     have hci:∀ i,i < zs.length→c[i]?=some (.int k (zs.getD i 0)):=fun i hi=>by simpa [World.cell?,hb] using hc i hi
     have hsz:zs.length≤c.size:=by
      have:=hci (zs.length - 1) Aa
      have:=(Array.getElem?_eq_some_iff.1 this).1
      omega
     refine ⟨g,0,c,el,fz,rfl,⟨c,el,fz,hb⟩,hb,by simp only [V.size];omega,by simp [V.size];omega,fun i hi=>⟨⟨rfl,rfl⟩,?_⟩⟩
     simp only [V.size,Nat.mul_one,List.drop_zero]
     have h1:=hci i hi
     have h2:c.toList[i]?=some (.int k (zs.getD i 0)):=by simpa using h1
     apply List.ext_getElem?
     intro j
     cases j with
     | zero=>simp [List.getElem?_take,List.getElem?_drop,hi,h1]
     | succ j=>simp [List.getElem?_take]
   | _=>simp [World.cell?,hb] at h0
end Mv
namespace Go.Proofs.YtfljfijnobocoaaDoor
open Go Mv
noncomputable def st:Seat where
 P:=Tryd.prog
 φ:=fun i=>match i with | 0=>0 | 1=>1 | 2=>2 | 24=>3 | 26=>4 | 63=>15 | 68=>24 | 70=>34 | 71=>23 | 74=>16 | 76=>55 | 79=>46 | 89=>7 | 90=>10 | 101=>5 | 102=>6 | 103=>8 | 104=>9 | 105=>11 | 106=>12 | 108=>13 | 109=>14 | 179=>31 | 181=>22 | 197=>35 | 207=>68 | 210=>27 | 211=>28 | 212=>36 | 213=>37 | 214=>45 | 215=>47 | 216=>48 | 217=>49 | 220=>58 | 226=>17 | 227=>18 | 228=>19 | 229=>20 | 230=>21 | 244=>25 | 245=>26 | 259=>91 | 277=>80 | 287=>38 | 306=>32 | 307=>33 | 308=>67 | 312=>77 | 315=>50 | 317=>78 | 318=>79 | 319=>51 | 320=>52 | 321=>59 | 322=>60 | 323=>61 | 324=>62 | 325=>63 | 326=>64 | 327=>65 | 328=>66 | 335=>29 | 336=>30 | 367=>53 | 368=>54 | 405=>39 | 406=>40 | 407=>41 | 408=>42 | 409=>43 | 410=>44 | 417=>86 | 418=>69 | 419=>70 | 420=>71 | 421=>74 | 422=>75 | 423=>76 | 458=>72 | 459=>56 | 460=>57 | 462=>92 | 463=>85 | 492=>81 | 493=>73 | 516=>82 | 517=>83 | 518=>84 | 537=>87 | 538=>88 | 539=>89 | 540=>90 | _=>0
 τ:=fun i=>match i with | 74=>55 | 362=>90 | n=>n
 γ:=fun i=>match i with | 1=>2 | 2=>3 | 3=>4 | n=>n
 gl:=[1,2,3]
theorem ck26:Au st 26 f26=true:=by kernel_rfl
theorem ck68:Au st 68 f68=true:=by kernel_rfl
theorem ck70:Au st 70 f70=true:=by kernel_rfl
theorem ck71:Au st 71 f71=true:=by kernel_rfl
theorem ck74:Au st 74 f74=true:=by kernel_rfl
theorem ck76:Au st 76 f76=true:=by kernel_rfl
theorem ck79:Au st 79 f79=true:=by kernel_rfl
theorem ck106:Au st 106 Anz=true:=by kernel_rfl
theorem ck108:Au st 108 Amk=true:=by kernel_rfl
theorem ck109:Au st 109 Amg=true:=by kernel_rfl
theorem ck179:Au st 179 Anl=true:=by kernel_rfl
theorem ck181:Au st 181 Ans=true:=by kernel_rfl
theorem ck197:Au st 197 Afq=true:=by kernel_rfl
theorem ck207:Au st 207 Aiu=true:=by kernel_rfl
theorem ck212:Au st 212 Aet=true:=by kernel_rfl
theorem ck213:Au st 213 An0=true:=by kernel_rfl
theorem ck214:Au st 214 Any=true:=by kernel_rfl
theorem ck220:Au st 220 Afl=true:=by kernel_rfl
theorem ck244:Au st 244 Amq=true:=by kernel_rfl
theorem ck245:Au st 245 Ann=true:=by kernel_rfl
theorem ck287:Au st 287 Am1=true:=by kernel_rfl
theorem ck306:Au st 306 Anw=true:=by kernel_rfl
theorem ck307:Au st 307 Ank=true:=by kernel_rfl
theorem ck315:Au st 315 Ah4=true:=by kernel_rfl
theorem ck317:Au st 317 Agm=true:=by kernel_rfl
theorem ck318:Au st 318 Ae5=true:=by kernel_rfl
theorem ck319:Au st 319 Agn=true:=by kernel_rfl
theorem ck320:Au st 320 Tq=true:=by kernel_rfl
theorem ck367:Au st 367 An5=true:=by kernel_rfl
theorem ck368:Au st 368 Anp=true:=by kernel_rfl
theorem ck405:Au st 405 Anb=true:=by kernel_rfl
theorem ck406:Au st 406 Anx=true:=by kernel_rfl
theorem ck409:Au st 409 Anm=true:=by kernel_rfl
theorem ck410:Au st 410 An6=true:=by kernel_rfl
theorem ck417:Au st 417 Aad=true:=by kernel_rfl
theorem ck418:Au st 418 Ah6=true:=by kernel_rfl
theorem ck419:Au st 419 Air=true:=by kernel_rfl
theorem ck420:Au st 420 Agp=true:=by kernel_rfl
theorem ck458:Au st 458 Ak5=true:=by kernel_rfl
theorem ck459:Au st 459 Anr=true:=by kernel_rfl
theorem ck460:Au st 460 Ant=true:=by kernel_rfl
theorem ck462:Au st 462 Ux=true:=by kernel_rfl
theorem ck492:Au st 492 Ak3=true:=by kernel_rfl
theorem ck493:Au st 493 An2=true:=by kernel_rfl
theorem ck516:Au st 516 Ani=true:=by kernel_rfl
theorem ck537:Au st 537 An3=true:=by kernel_rfl
theorem fn220:EC st 220:=⟨by decide,Tryd.f58,Tryd.func58,by kernel_rfl,by kernel_rfl⟩
theorem okCk:OkCk st:=⟨ck179,ck287,ck367,ck368,ck458,ck492⟩
theorem okH:OkH st:=⟨ck319,ck418,ck419,ck420⟩
theorem okS:OkS st:=⟨okH,ck68,ck212,ck213,ck320⟩
theorem okV:OkV st:=⟨okS,ck70,ck71,ck79,ck214,ck220,fn220⟩
theorem okI:OkI st:=⟨okV,ck76⟩
theorem okLo:OkLo st:=⟨okCk,okI,ck405⟩
theorem okLp:OkLp st:=⟨okLo,ck459,ck493,ck516,ck537⟩
theorem okLf:OkLf st:=⟨okLp,ck406⟩
theorem okLn:OkLn st:=⟨okLf,ck307,ck409,ck410,ck460⟩
theorem okLc:OkLc st:=⟨okLn,ck181,ck306⟩
theorem okM:OkM st:=⟨ck74,ck197,ck207,ck315,ck317,ck318,ck417,ck462⟩
theorem okLm:OkLm st:=⟨okM,ck108,ck109,ck244,ck245⟩
theorem okL13:OkL13 st:=⟨okLc,okLm,okV,okS,ck106⟩
theorem is_runs (a b:Int):Ag st 63 [.ifc 74 (.int .i64 a),.ifc 74 (.int .i64 b)] [] 0 (Q3 (.bool (decide (a=b))) [] 0):=by
 intro e vs hI hD hargs
 obtain ⟨hlen,hargs⟩:=hargs
 have hτ:e.τ 74=55:=by exact (congrFun hI.τ 74).trans rfl
 match vs,hlen with
 | ⟨[v0, v1]⟩, _ =>
   have h0:=hargs 0
   have h1:=hargs 1
   simp [RV,RS,V.isAgg,R,hτ] at h0 h1
   rw [h0.1,h1.1]
   refine (is_errno' a b _ rfl e.w).mono ?_
   rintro en w' ⟨rfl,rfl⟩
   exact ⟨_,.bool _,e,[],0,rfl,rfl,hI,by simp [RV,RS,V.isAgg,R],hD,Nat.le_refl _,rfl,rfl,rfl⟩
theorem okLM:OkLM st:=⟨okL13,ck26,is_runs⟩
end Go.Proofs.YtfljfijnobocoaaDoor
namespace Mv
end Mv
namespace Mv
def Ln (p:Nat):Nat:=(lanes.getD p 0).toNat
def pos:Nat→Nat
 | 0=>1
 | p + 1=>Ln p
end Mv
namespace Mv
open Go
end Mv
namespace Mv
open Go Go.ChangeShapes Go.WideShapes
theorem CH {n:Int} (h:(Lit.int .u64 n).wf=true):∃ w:BitVec 64,n=(w.toNat:Int):=by
 have hb:0≤n∧n≤18446744073709551615:=by simpa [Lit.wf,IntKind.min,IntKind.max,IntKind.signed,IntKind.bits] using h
 refine ⟨BitVec.ofNat 64 n.toNat,?_⟩
 rw [BitVec.toNat_ofNat,Nat.mod_eq_of_lt Aa]
 omega
end Mv
namespace Mv
open Go Go.ChangeShapes Go.WideShapes
theorem Am4 {H:Type} {enc:TypeId × Value→H} {M:Seat} {W:World} {t:TypeId} {k:IntKind} {v:Value} {d:DataW H} {ps:List MemPlace} (ht:M.P.underlying t=some (.int k))
 {base:Nat} (hok:Value.okWide M.P W .any base t v) (h:DataW.Trod enc M.P W 0 (fun _=>true) true t v d ps):∃ n:Int,(Lit.int k n).wf=true∧RV (Ako M W) (.int k n) v:=by
 obtain ⟨n,rfl⟩:=okWide_int ht hok
 obtain ⟨m,hm⟩:=h
 obtain ⟨z,e0,_,wz⟩:=DataW.trod_int ht hm
 simp only [Value.cells,EF,Value.int.injEq,true_and] at e0
 subst e0
 exact ⟨n,wz,by simp [RV,RS,V.isAgg,R]⟩
theorem Al8 {H:Type} {enc:TypeId × Value→H} {M:Seat} {W:World} {t e:TypeId} {v:Value} {d:DataW H} {ps:List MemPlace} (ht:M.P.underlying t=some (.slice e)) (he:M.P.underlying e=some (.int .u64)) (ce:M.P.cellsOf e=1)
 {base:Nat} (hok:Value.okWide M.P W .any base t v) (h:DataW.Trod enc M.P W 0 (fun _=>true) true t v d ps):∃ cs cv,(cv=Aln cs ∨ (cv = .nils∧cs=[]))∧cs.length < 9223372036854775808∧RV (Ako M W) cv v:=by
 obtain ⟨a,len,cap,rfl⟩:=okWide_slice ht hok
 obtain ⟨n,hn⟩:=h
 rcases Deep.open_slice1 ht ce hn with ⟨h1,_⟩ | ⟨a,len,cap,m,n',V0,D0,P0,hcs,_,hlc,hcm,hm,_,hx⟩
 ·simp [Value.cells] at h1
  obtain ⟨rfl,rfl,rfl⟩:=h1
  exact ⟨[],.nils,.inr ⟨rfl,rfl⟩,by simp,by simp [RV,RS,V.isAgg,R]⟩
 ·simp [Value.cells] at hcs
  obtain ⟨rfl,rfl,rfl⟩:=hcs
  simp only [if_true] at hm
  subst hm
  have hz:∀ i,i < m→∃ c:BitVec 64,V0 i = .int .u64 (c.toNat:Int):=by
   intro i hi
   obtain ⟨_,g0⟩:=hx i hi
   obtain ⟨z0,e0,_,w0⟩:=DataW.trod_int he g0
   simp only [EF] at e0
   obtain ⟨b0,rfl⟩:=CH w0
   exact ⟨b0,e0⟩
  obtain ⟨g,hg⟩:=Deep.choose_lt hz
  have hgl:∀ j,j < len→((List.range len).map g).getD j 0=g j:=fun j hj=>by simp [List.getD,List.getElem?_map,List.getElem?_range hj]
  refine ⟨(List.range len).map g,_,.inl rfl,?_,?_⟩
  ·simp only [List.length_map,List.length_range]
   have:maxLen < 9223372036854775808:=Am
   omega
  ·simp only [Aln,List.length_map,List.length_range]
   rw [AI rfl]
   simp only [RS,V.isAgg,R]
   refine ⟨_,_,rfl,hlc,fun hpos=>?_⟩
   have h0:=(hx 0 Aa).1
   obtain ⟨b,o,sp⟩:=a
   have ha0:(⟨b,o,sp⟩:Addr).add 0=⟨b,o,sp⟩:=by simp [Addr.add]
   rw [ha0] at h0
   cases hb:W.heap[b]? with
   | none=>simp [World.cell?,hb] at h0
   | some ob =>
     cases ob with
     | cells c el fz =>
       cases sp with
       | some s=>simp [World.cell?,hb] at h0
       | none =>
         have hadd:∀ k,(⟨b,o,none⟩:Addr).add k=⟨b,o + k,none⟩:=by
          intro k
          unfold Addr.add
          split
          ·rename_i h;subst h;rfl
          ·rfl
         simp only [hadd] at hx
         have hc0:∀ i,i < m→c[o + i]?=some (V0 i):=fun i hi=>by simpa [World.cell?,hb] using (hx i hi).1
         have hsz:o + len * 1≤c.size:=by
          have:=(Array.getElem?_eq_some_iff.1 (hc0 (len - 1) Aa)).1
          omega
         refine ⟨b,o,c,el,fz,rfl,⟨c,el,fz,hb⟩,hb,hsz,fun i hi=>⟨⟨rfl,rfl⟩,?_⟩⟩
         rw [Nq,hgl i hi]
         have e2:(c.toList.drop (o + i * 1)).take 1=[V0 i]:=by
          have a0:c.toList[o + i]?=some (V0 i):=by simpa using hc0 i Aa
          apply List.ext_getElem?
          intro j
          match j with
          | 0=>simp [List.getElem?_take,List.getElem?_drop,hc0 i Aa]
          | j + 1=>simp [List.getElem?_take]
         rw [e2,hg i Aa]
         simp [Mv.W,R]
     | _=>simp [World.cell?,hb] at h0
end Mv
namespace Mv
open Go Go.ChangeShapes Go.WideShapes
theorem Aks {H:Type} {enc:TypeId × Value→H} {M:Seat} {W:World} {t e:TypeId} {v:Value} {d:DataW H} {ps:List MemPlace} (ht:M.P.underlying t=some (.slice e)) (he:M.P.underlying e=some (.int .u64)) (ce:M.P.cellsOf e=1) (be:M.P.bytesOf e=8)
 (hw:∀ a b,d = .slice a b→(a.length + b.length) * M.P.bytesOf e≤reachBytes)
 {base:Nat} (hok:Value.okWide M.P W .any base t v) (h:DataW.Trod enc M.P W 0 (fun _=>true) true t v d ps):∃ (n:Nat) (u:Nat→BitVec 64),n * 8≤140737488351232∧RV (Ako M W) (.lst 1 n fun j=>Mv.W (u j)) v:=by
 obtain ⟨cs,cv,h1,_,h3⟩:=Al8 ht he ce hok h
 rcases h1 with rfl | ⟨rfl,rfl⟩
 ·refine ⟨cs.length,fun j=>cs.getD j 0,?_,h3⟩
  obtain ⟨n,hn⟩:=h
  have hlen:∃ a len cap,v = .slice a len cap∧len=cs.length:=by
   rw [AI rfl] at h3
   simp only [Aln,RS,V.isAgg,R] at h3
   obtain ⟨a,cap,h4,_⟩:=h3
   exact ⟨a,_,cap,by simpa using h4,rfl⟩
  obtain ⟨a',len',cap',rfl,rfl⟩:=hlen
  rcases Deep.open_slice1 ht ce hn with ⟨h4,_⟩ | ⟨a,len,cap,m,n',V0,D0,P0,hcs,_,hlc,hcm,hm,hd,hx⟩
  ·simp [Value.cells] at h4
   obtain ⟨_,h5,_⟩:=h4
   rw [h5];simp
  ·simp [Value.cells] at hcs
   obtain ⟨rfl,rfl,rfl⟩:=hcs
   injection hd with hd1 hd2
   have:=hw _ _ hd1
   rw [be] at this
   simp only [List.length_map,List.length_range,reachBytes] at this
   omega
 ·refine ⟨0,fun _=>0,by omega,?_⟩
  simp [RV,RS,V.isAgg,R] at h3
  subst h3
  rw [AI rfl]
  simp only [RS,V.isAgg,R]
  exact ⟨_,_,rfl,Nat.le_refl _,fun hpos=>absurd hpos Aa⟩
end Mv
