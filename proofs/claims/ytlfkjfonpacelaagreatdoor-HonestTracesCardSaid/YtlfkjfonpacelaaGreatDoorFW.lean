/- A part. -/
import Derived.Test.YtlfkjfonpacelaaGreatDoorFV
import Derived.Test.YtlfkjfonpacelaaGreatDoorChecked
import Derived.WalkKit
import Derived.LaidEql
import Derived.Stop.Asserts
import Derived.RowKitTokens
import Derived.Test.YtlfkjfonpacelaaGreatDoorRows
import Derived.KernelRfl
import Derived.OpenShut
set_option linter.all false
set_option maxRecDepth 200000
namespace Go.Proofs.YtlfkjfonpacelaaGreatDoor
open Go Go.RowKit Go.Extern.Stop Go.Stop Go.Extern
theorem isTypeOf (v:Value) (w:World):(Extern.ReflectliteType.typeOf #[.iface 68 v]).run Tryz.prog w = .ok (.iface 219 (.agg #[.pointer (some ⟨6,68,none⟩)])) w:=by kernel_rfl
def cmpM : Array Value → Sem Value := Extern.ReflectliteType.method fun t => do Extern.Rtype.noPackHeld "Comparable" t; pure (.bool (← typeInfo t).comparable)
theorem isComparable (w:World):(cmpM #[.agg #[.pointer (some ⟨6,68,none⟩)]]).run Tryz.prog w = .ok (.bool true) w:=by kernel_rfl
theorem isMethod (v : Value) (w : World) : (Go.method 468 219 v "Comparable").run Tryz.prog w = .ok (184, v) w := by kernel_rfl
theorem noIs (v:Value) (xT:TypeId) (w:World):(Instr.typeAssert (.iface 68 v) xT 221 true).run Tryz.prog w = .ok (.tuple #[.nilIface,.bool false]) w:=run_typeAssert_lacksB Tryz.underlying221 (by kernel_rfl) (by kernel_rfl) v xT w
theorem noUnwrap (v:Value) (xT:TypeId) (w:World):(Instr.typeAssert (.iface 68 v) xT 224 true).run Tryz.prog w = .ok (.tuple #[.nilIface,.bool false]) w:=run_typeAssert_lacksB Tryz.underlying224 (by kernel_rfl) (by kernel_rfl) v xT w
theorem noUnwraps (v:Value) (xT:TypeId) (w:World):(Instr.typeAssert (.iface 68 v) xT 226 true).run Tryz.prog w = .ok (.tuple #[.nilIface,.bool false]) w:=run_typeAssert_lacksB Tryz.underlying226 (by kernel_rfl) (by kernel_rfl) v xT w
theorem isComp:(Tryz.prog.info? 68).map (·.comparable)=some true:=by kernel_rfl
theorem eql_errno (a b:Int) (w:World):(binOp .eql 30 (.iface 68 (.int .i64 a)) (.iface 68 (.int .i64 b))).run Tryz.prog w = .ok (.bool (decide (a=b))) w:=by
 obtain ⟨i,hi,hcmp⟩:=Option.map_eq_some_iff.1 isComp
 have h1:∀ d:Nat,(Op.equalIn (d + 1) 68 (.int .i64 a) (.int .i64 b)).run Tryz.prog w = .ok (decide (a=b)) w:=fun d=>by
  simp only [Op.equalIn,Sem.run_bind,run_underlying Tryz.underlying68,Result.andThen_ok,if_true,Sem.run_pure]
  congr 1
 have h:∀ d:Nat,(Op.equalIn (d + 2) 30 (.iface 68 (.int .i64 a)) (.iface 68 (.int .i64 b))).run Tryz.prog w = .ok (decide (a=b)) w:=fun d=>by
  have:=h1 d
  simp [Op.equalIn,run_underlying Tryz.underlying30,typeInfo,hi,hcmp] at this ⊢
  exact this
 simp only [binOp]
 simp [Op.equal,Op.maxDepth,h 9998]
theorem is_errno' (a b:Int) (c:Bool) (hc:decide (a=b)=c) (w:World) :
 Calls Tryz.prog 20 #[.iface 68 (.int .i64 a),.iface 68 (.int .i64 b)] w fun e w'=>e = .returned (.bool c)∧w'=w:=by
 have h8:=@run_callFunc_extern Tryz.prog 60 _ Extern.ReflectliteType.typeOf Tryz.func60 (by kernel_rfl) (by kernel_rfl) (by kernel_rfl) (by kernel_rfl)
 have h32:=@run_callFunc_extern Tryz.prog 184 _ cmpM Tryz.func184 (by kernel_rfl) (by kernel_rfl) (by kernel_rfl) (by kernel_rfl)
 have tT:=isTypeOf
 have cT:=isComparable
 have mR:=isMethod
 have nE:=noIs
 have uE:=noUnwrap
 have vE:=noUnwraps
 have heq:=eql_errno a b w
 rw [hc] at heq
 clear hc
 cases c
 ·go_enter Tryz.func20,Tryz.ntmps20
  go_wp2
  refine wp_loop_rounds 1 ?_
  rw [rounds_succ]
  go_wp2
  go_ret
  exact ⟨rfl,rfl⟩
 ·go_enter Tryz.func20,Tryz.ntmps20
  go_wp2
  refine wp_loop_rounds 1 ?_
  rw [rounds_succ]
  go_wp2
  go_ret
  exact ⟨rfl,rfl⟩
end Go.Proofs.YtlfkjfonpacelaaGreatDoor
namespace Go.Proofs.YtlfkjfonpacelaaGreatDoor
open Go Mv
noncomputable def st:Seat where
 P:=Tryz.prog
 φ:=fun i=>match i with | 40=>5 | 49=>26 | 50=>179 | 51=>66 | 54=>31 | 55=>65 | 59=>113 | 62=>73 | 63=>20 | 68=>8 | 70=>30 | 71=>28 | 72=>25 | 74=>40 | 75=>41 | 77=>83 | 79=>69 | 93=>114 | 97=>29 | 110=>45 | 111=>54 | 112=>15 | 117=>35 | 119=>77 | 120=>52 | 122=>9 | 124=>18 | 130=>55 | 131=>94 | 132=>95 | 140=>74 | 151=>7 | 152=>10 | 153=>11 | 154=>12 | 155=>13 | 156=>14 | 157=>16 | 167=>27 | 168=>32 | 197=>42 | 198=>180 | 199=>98 | 200=>90 | 202=>132 | 207=>112 | 208=>139 | 212=>43 | 213=>44 | 214=>68 | 215=>70 | 216=>71 | 217=>72 | 220=>102 | 222=>48 | 223=>49 | 241=>67 | 246=>87 | 247=>88 | 248=>75 | 249=>50 | 250=>51 | 254=>53 | 255=>56 | 256=>57 | 257=>58 | 258=>63 | 259=>93 | 260=>129 | 274=>46 | 275=>47 | 276=>64 | 277=>145 | 308=>111 | 312=>127 | 315=>84 | 316=>128 | 317=>137 | 318=>138 | 319=>85 | 320=>86 | 321=>103 | 322=>104 | 323=>105 | 324=>106 | 325=>107 | 326=>108 | 327=>109 | 328=>110 | 346=>99 | 347=>100 | 348=>101 | 350=>122 | 351=>123 | 352=>124 | 353=>125 | 354=>126 | 355=>91 | 359=>92 | 363=>89 | 417=>150 | 418=>119 | 419=>120 | 420=>121 | 421=>134 | 423=>136 | 448=>133 | 452=>146 | 453=>147 | 462=>154 | 463=>149 | 487=>153 | 595=>176 | 596=>177 | 597=>178 | 598=>198 | 599=>199 | 600=>200 | _=>0
 τ:=fun i=>match i with | 74=>68 | 145=>250 | 394=>249 | 147=>251 | 362=>112 | 422=>167 | 426=>308 | n=>n
 γ:=fun i=>match i with | 1=>3 | 2=>4 | 3=>5 | n=>n
 gl:=[1,2,3]
 raw:=[(0,.iface 219 (.agg #[.pointer (some ⟨6,30,none⟩)]))]
theorem fn220:GL st 220:=⟨by decide,Tryz.f102,Tryz.func102,by kernel_rfl,by kernel_rfl⟩
theorem fn352:GL st 352:=⟨by decide,Tryz.f124,Tryz.func124,by kernel_rfl,by kernel_rfl⟩
theorem fn257:GL st 257:=⟨by decide,Tryz.f58,Tryz.func58,by kernel_rfl,by kernel_rfl⟩
theorem mth422_0:CK st 422 0 596:=⟨⟨by decide,Tryz.f177,Tryz.func177,by kernel_rfl,by kernel_rfl⟩,fun v w=>by kernel_rfl⟩
theorem mth422_1:CK st 422 1 597:=⟨⟨by decide,Tryz.f178,Tryz.func178,by kernel_rfl,by kernel_rfl⟩,fun v w=>by kernel_rfl⟩
theorem mth422_2:CK st 422 2 595:=⟨⟨by decide,Tryz.f176,Tryz.func176,by kernel_rfl,by kernel_rfl⟩,fun v w=>by kernel_rfl⟩
theorem mth426_0:CK st 426 0 599:=⟨⟨by decide,Tryz.f199,Tryz.func199,by kernel_rfl,by kernel_rfl⟩,fun v w=>by kernel_rfl⟩
theorem mth426_1:CK st 426 1 600:=⟨⟨by decide,Tryz.f200,Tryz.func200,by kernel_rfl,by kernel_rfl⟩,fun v w=>by kernel_rfl⟩
theorem mth426_2:CK st 426 2 598:=⟨⟨by decide,Tryz.f198,Tryz.func198,by kernel_rfl,by kernel_rfl⟩,fun v w=>by kernel_rfl⟩
theorem okM:OkM st:=by constructor <;> kernel_rfl
theorem okHp:OkHp st:=⟨okM,by kernel_rfl,by kernel_rfl⟩
theorem okD:OkD st:=by constructor <;> kernel_rfl
theorem okHo:OkHo st:=⟨okHp,okD,by kernel_rfl⟩
theorem okH:OkH st:=by constructor <;> kernel_rfl
theorem okS:OkS st:=⟨okH,by kernel_rfl,by kernel_rfl,by kernel_rfl,by kernel_rfl,by kernel_rfl⟩
theorem okV:OkV st:=⟨okS,by kernel_rfl,by kernel_rfl,by kernel_rfl,by kernel_rfl,by kernel_rfl,by kernel_rfl,fn220⟩
theorem okI:OkI st:=⟨okV⟩
theorem okW:OkW st:=⟨okI,by kernel_rfl⟩
theorem okO:OkO st:=⟨okW,by kernel_rfl,by kernel_rfl,by kernel_rfl,by kernel_rfl⟩
theorem okP:OkP st:=by constructor <;> kernel_rfl
theorem okT:OkT st:=⟨okM,okO,okP⟩
theorem okPr:OkPr st:=⟨by kernel_rfl,by kernel_rfl,by kernel_rfl,by kernel_rfl,by kernel_rfl,mth422_0,mth422_1,mth422_2⟩
theorem okRc:OkRc st:=⟨okHo,okT,okPr,by kernel_rfl⟩
theorem okAx:OkAx st:=⟨okRc,by kernel_rfl⟩
theorem okNx:OkNx st:=by constructor <;> kernel_rfl
theorem okQ:OkQ st:=⟨okM,okO,okP,okNx⟩
theorem okCk:OkCk st:=⟨mth426_0,mth426_1,mth426_2⟩
theorem okOs:OkOs st:=⟨okQ,okD,okCk,okPr,by kernel_rfl⟩
theorem okPt:OkPt st:=⟨okAx,okOs,by kernel_rfl⟩
theorem as1R (a b:Int):Af st 93 [erN a,.ifc 394 (.ptr 0 [])] [(0,.int .i64 b)] 1 (Q3 (.bool true) [(0,.int .i64 a)] 1) :=
 Afp (g:=0) (gv:=etV) (by simp [st]) (fun n t old w hg ht hf=>(as_num n t old w hg ht hf).mono fun ev w' h=>⟨h.1,_,_,_,_,h.2⟩) a b
theorem as2R (a:Int):Af st 93 [erN a,.ifc 147 (.ptr 0 [])] [(0,.nilp)] 1 (Q3 (.bool false) [(0,.nilp)] 1) :=
 Ahh (g:=0) (gv:=etV) (by simp [st]) (fun n t w hg=>(as_miss n t w hg).mono fun ev w' h=>⟨h.1,_,_,_,h.2⟩) a
theorem okN:OkN st:=⟨by kernel_rfl,as1R,as2R⟩
theorem okTr:OkTr st:=⟨okPt,okN,okT,by kernel_rfl,by kernel_rfl,by kernel_rfl⟩
theorem okAs:OkAs st:=⟨okAx,by kernel_rfl⟩
theorem is_runs (a b:Int):Af st 63 [.ifc 74 (.int .i64 a),.ifc 74 (.int .i64 b)] [] 0 (Q3 (.bool (decide (a=b))) [] 0):=by
 intro e vs hI hD hargs
 obtain ⟨hlen,hargs⟩:=hargs
 have hτ:e.τ 74=68:=by exact (congrFun hI.τ 74).trans rfl
 match vs,hlen with
 | ⟨[v0, v1]⟩, _ =>
   have h0:=hargs 0
   have h1:=hargs 1
   simp [RV,RS,V.isAgg,R,hτ] at h0 h1
   rw [h0.1,h1.1]
   refine (is_errno' a b _ rfl e.w).mono ?_
   rintro en w' ⟨rfl,rfl⟩
   exact ⟨_,.bool _,e,[],0,rfl,rfl,hI,by simp [RV,RS,V.isAgg,R],hD,Nat.le_refl _,rfl,rfl,rfl⟩
theorem okTl:OkTl st:=⟨okTr,okAs,okO,by kernel_rfl,is_runs⟩
theorem okHn:OkHn st:=⟨okHo,okPr,by kernel_rfl⟩
theorem okHr:OkHr st:=⟨okHn,okV,by kernel_rfl⟩
theorem okHa:OkHa st:=⟨okHr,by kernel_rfl,by kernel_rfl⟩
theorem okGN:OkGN st:=by constructor <;> kernel_rfl
theorem okLd:OkLd st:=by constructor <;> kernel_rfl
theorem okPo:OkPo st:=⟨okP,by kernel_rfl,by kernel_rfl,by kernel_rfl,by kernel_rfl⟩
theorem okGm:OkGm st:=⟨okGN,okLd,okPo,by kernel_rfl,by kernel_rfl,by kernel_rfl,by kernel_rfl⟩
theorem okMv:OkMv st:=⟨okGm,by kernel_rfl,by kernel_rfl,by kernel_rfl,by kernel_rfl,by kernel_rfl,by kernel_rfl,by kernel_rfl,fn352⟩
theorem okCl:OkCl st:=⟨okMv⟩
theorem okLe:OkLe st:=⟨okLd⟩
theorem okGs:OkGs st:=⟨okMv,okCl,okLe,by kernel_rfl⟩
theorem okGt:OkGt st:=⟨okGs⟩
theorem okGr:OkGr st:=⟨okGt⟩
theorem okHv:OkHv st:=⟨okHa,okOs,okGr,by kernel_rfl,by kernel_rfl⟩
theorem okHi:OkHi st:=⟨okHv,by kernel_rfl,by kernel_rfl,by kernel_rfl,by kernel_rfl,by kernel_rfl⟩
theorem okBg:OkBg st:=⟨okAs,okHi,okI,by kernel_rfl,okMv⟩
theorem okHj:OkHj st:=⟨okHi,by kernel_rfl,by kernel_rfl,by kernel_rfl⟩
theorem okHl:OkHl st:=⟨okHj,fn257,by kernel_rfl⟩
theorem okI7:OkI7 st:=⟨by kernel_rfl⟩
theorem okI75:OkI75 st:=⟨okI7,by kernel_rfl⟩
theorem okHt:OkHt st:=⟨okTl,okBg,okHl,okM,okI75⟩
end Go.Proofs.YtlfkjfonpacelaaGreatDoor
namespace Mv
open Go
end Mv
namespace Mv
open Go Go.ChangeShapes Go.WideShapes
theorem Th {n:Int} (h:(Lit.int .u64 n).wf=true):∃ w:BitVec 64,n=(w.toNat:Int):=by
 have hb:0≤n∧n≤18446744073709551615:=by simpa [Lit.wf,IntKind.min,IntKind.max,IntKind.signed,IntKind.bits] using h
 refine ⟨BitVec.ofNat 64 n.toNat,?_⟩
 rw [BitVec.toNat_ofNat,Nat.mod_eq_of_lt Aa]
 omega
end Mv
namespace Mv
open Go Go.ChangeShapes Go.WideShapes
theorem ZP {H:Type} {enc:TypeId × Value→H} {M:Seat} {W:World} {t:TypeId} {k:IntKind} {v:Value} {d:DataW H} {ps:List MemPlace} (ht:M.P.underlying t=some (.int k))
 {base:Nat} (hok:Value.okWide M.P W .any base t v) (h:DataW.Trod enc M.P W 0 (fun _=>true) true t v d ps):∃ n:Int,(Lit.int k n).wf=true∧RV (Jn M W) (.int k n) v:=by
 obtain ⟨n,rfl⟩:=okWide_int ht hok
 obtain ⟨m,hm⟩:=h
 obtain ⟨z,e0,_,wz⟩:=DataW.trod_int ht hm
 simp only [Value.cells,EU,Value.int.injEq,true_and] at e0
 subst e0
 exact ⟨n,wz,by simp [RV,RS,V.isAgg,R]⟩
theorem TN {H:Type} {enc:TypeId × Value→H} {M:Seat} {W:World} {t e:TypeId} {v:Value} {d:DataW H} {ps:List MemPlace} (ht:M.P.underlying t=some (.slice e)) (he:M.P.underlying e=some (.int .u64)) (ce:M.P.cellsOf e=1)
 {base:Nat} (hok:Value.okWide M.P W .any base t v) (h:DataW.Trod enc M.P W 0 (fun _=>true) true t v d ps):∃ cs cv,(cv=Cz cs ∨ (cv = .nils∧cs=[]))∧cs.length < 9223372036854775808∧RV (Jn M W) cv v:=by
 obtain ⟨a,len,cap,rfl⟩:=okWide_slice ht hok
 obtain ⟨n,hn⟩:=h
 rcases Deep.open_slice1 ht ce hn with ⟨h1,_⟩ | ⟨a,len,cap,m,n',V0,D0,P0,hcs,_,hlc,hcm,hm,_,hx⟩
 ·simp [Value.cells] at h1
  obtain ⟨rfl,rfl,rfl⟩:=h1
  exact ⟨[],.nils,.inr ⟨rfl,rfl⟩,by simp,by simp [RV,RS,V.isAgg,R]⟩
 ·simp [Value.cells] at hcs
  obtain ⟨rfl,rfl,rfl⟩:=hcs
  simp only [if_true] at hm
  subst hm
  have hz:∀ i,i < m→∃ c:BitVec 64,V0 i = .int .u64 (c.toNat:Int):=by
   intro i hi
   obtain ⟨_,g0⟩:=hx i hi
   obtain ⟨z0,e0,_,w0⟩:=DataW.trod_int he g0
   simp only [EU] at e0
   obtain ⟨b0,rfl⟩:=Th w0
   exact ⟨b0,e0⟩
  obtain ⟨g,hg⟩:=Deep.choose_lt hz
  have hgl:∀ j,j < len→((List.range len).map g).getD j 0=g j:=fun j hj=>by simp [List.getD,List.getElem?_map,List.getElem?_range hj]
  refine ⟨(List.range len).map g,_,.inl rfl,?_,?_⟩
  ·simp only [List.length_map,List.length_range]
   have:maxLen < 9223372036854775808:=Aj
   omega
  ·simp only [Cz,List.length_map,List.length_range]
   rw [AR rfl]
   simp only [RS,V.isAgg,R]
   refine ⟨_,_,rfl,hlc,fun hpos=>?_⟩
   have h0:=(hx 0 Aa).1
   obtain ⟨b,o,sp⟩:=a
   have ha0:(⟨b,o,sp⟩:Addr).add 0=⟨b,o,sp⟩:=by simp [Addr.add]
   rw [ha0] at h0
   cases hb:W.heap[b]? with
   | none=>simp [World.cell?,hb] at h0
   | some ob =>
     cases ob with
     | cells c el fz =>
       cases sp with
       | some s=>simp [World.cell?,hb] at h0
       | none =>
         have hadd:∀ k,(⟨b,o,none⟩:Addr).add k=⟨b,o + k,none⟩:=by
          intro k
          unfold Addr.add
          split
          ·rename_i h;subst h;rfl
          ·rfl
         simp only [hadd] at hx
         have hc0:∀ i,i < m→c[o + i]?=some (V0 i):=fun i hi=>by simpa [World.cell?,hb] using (hx i hi).1
         have hsz:o + len * 1≤c.size:=by
          have:=(Array.getElem?_eq_some_iff.1 (hc0 (len - 1) Aa)).1
          omega
         refine ⟨b,o,c,el,fz,rfl,⟨c,el,fz,hb⟩,hb,hsz,fun i hi=>⟨⟨rfl,rfl⟩,?_⟩⟩
         rw [M9,hgl i hi]
         have e2:(c.toList.drop (o + i * 1)).take 1=[V0 i]:=by
          have a0:c.toList[o + i]?=some (V0 i):=by simpa using hc0 i Aa
          apply List.ext_getElem?
          intro j
          match j with
          | 0=>simp [List.getElem?_take,List.getElem?_drop,hc0 i Aa]
          | j + 1=>simp [List.getElem?_take]
         rw [e2,hg i Aa]
         simp [Mv.W,R]
     | _=>simp [World.cell?,hb] at h0
end Mv
namespace Mv
open Go Go.ChangeShapes Go.WideShapes
def Nb (x:In):List Value:=[.int .i64 x.op,.int .i64 x.d,.int .i64 x.a,.int .i64 x.b,.int .i64 x.c,.int .i64 x.n,.int .u64 (x.raw.toNat:Int)]
theorem Aor (e:Env) (x:In):R e (WY x) (Nb x):=by
 simp [WY,Nb,R,V.flo,V.chain,V.size,W,Value.oneCell']
theorem ZR {H:Type} {enc:TypeId × Value→H} {M:Seat} {W:World} {t e:TypeId} {f0 f1 f2 f3 f4 f5 f6:Field} {v:Value} {d:DataW H} {ps:List MemPlace} (ht:M.P.underlying t=some (.slice e))
 (he:M.P.underlying e=some (.struct #[f0,f1,f2,f3,f4,f5,f6])) (ce:M.P.cellsOf e=7)
 (o:f0.offset=0∧f1.offset=1∧f2.offset=2∧f3.offset=3∧f4.offset=4∧f5.offset=5∧f6.offset=6)
 (u0:M.P.underlying f0.type=some (.int .i64)) (u1:M.P.underlying f1.type=some (.int .i64)) (u2:M.P.underlying f2.type=some (.int .i64)) (u3:M.P.underlying f3.type=some (.int .i64)) (u4:M.P.underlying f4.type=some (.int .i64)) (u5:M.P.underlying f5.type=some (.int .i64)) (u6:M.P.underlying f6.type=some (.int .u64))
 (c0:M.P.cellsOf f0.type=1) (c1:M.P.cellsOf f1.type=1) (c2:M.P.cellsOf f2.type=1) (c3:M.P.cellsOf f3.type=1) (c4:M.P.cellsOf f4.type=1) (c5:M.P.cellsOf f5.type=1) (c6:M.P.cellsOf f6.type=1)
 {base:Nat} (hok:Value.okWide M.P W .any base t v) (h:DataW.Trod enc M.P W 0 (fun _=>true) true t v d ps):∃ l cv,Aia l cv∧l.length < 9223372036854775808∧RV (Jn M W) cv v:=by
 obtain ⟨o0,o1,o2,o3,o4,o5,o6⟩:=o
 obtain ⟨a,len,cap,rfl⟩:=okWide_slice ht hok
 obtain ⟨n,hn⟩:=h
 rcases Deep.open_slice ht hn with ⟨h1,_⟩ | ⟨a,len,cap,m,n',D,P,hcs,_,hlc,hcm,hm,_,hx⟩
 ·simp [Value.cells] at h1
  obtain ⟨rfl,rfl,rfl⟩:=h1
  exact ⟨[],.nils,.inr ⟨rfl,rfl⟩,by simp,by simp [RV,RS,V.isAgg,R]⟩
 ·simp [Value.cells] at hcs
  obtain ⟨rfl,rfl,rfl⟩:=hcs
  simp only [if_true] at hm
  subst hm
  have hz:∀ i,i < m→∃ x:In,∀ j,j < 7→W.cell? ((a.add (i * 7)).add j)=(Nb x)[j]?:=by
   intro i hi
   obtain ⟨cs',h1,h2⟩:=hx i hi
   rw [ce] at h1
   obtain ⟨_,hlen,hcell⟩:=World.cells?_some h1
   obtain ⟨xs,k,_,_,_,hxl,hf⟩:=DataW.trod_struct he h2
   match cs',hlen with
   | [v0, v1, v2, v3, v4, v5, v6], _ =>
     match xs,hxl with
     | [y0, y1, y2, y3, y4, y5, y6], _ =>
       have g0:=hf 0 f0 rfl
       have g1:=hf 1 f1 rfl
       have g2:=hf 2 f2 rfl
       have g3:=hf 3 f3 rfl
       have g4:=hf 4 f4 rfl
       have g5:=hf 5 f5 rfl
       have g6:=hf 6 f6 rfl
       simp [o0,c0] at g0
       simp [o1,c1] at g1
       simp [o2,c2] at g2
       simp [o3,c3] at g3
       simp [o4,c4] at g4
       simp [o5,c5] at g5
       simp [o6,c6] at g6
       obtain ⟨z0,e0,_,w0⟩:=DataW.trod_int u0 g0
       obtain ⟨z1,e1,_,w1⟩:=DataW.trod_int u1 g1
       obtain ⟨z2,e2,_,w2⟩:=DataW.trod_int u2 g2
       obtain ⟨z3,e3,_,w3⟩:=DataW.trod_int u3 g3
       obtain ⟨z4,e4,_,w4⟩:=DataW.trod_int u4 g4
       obtain ⟨z5,e5,_,w5⟩:=DataW.trod_int u5 g5
       obtain ⟨z6,e6,_,w6⟩:=DataW.trod_int u6 g6
       simp only [EU] at e0 e1 e2 e3 e4 e5 e6
       obtain ⟨b6,rfl⟩:=Th w6
       subst e0 e1 e2 e3 e4 e5 e6
       exact ⟨⟨z0,z1,z2,z3,z4,z5,b6⟩,fun j hj=>hcell j hj⟩
  obtain ⟨g,hg⟩:=Deep.choose_lt hz
  have hgl:∀ j,j < len→((List.range len).map g).getD j default=g j:=fun j hj=>by simp [List.getD,List.getElem?_map,List.getElem?_range hj]
  refine ⟨(List.range len).map g,_,.inl rfl,?_,?_⟩
  ·simp only [List.length_map,List.length_range]
   have:maxLen < 9223372036854775808:=Aj
   omega
  ·simp only [Jo,List.length_map,List.length_range]
   rw [AR rfl]
   simp only [RS,V.isAgg,R]
   refine ⟨_,_,rfl,hlc,fun hpos=>?_⟩
   have h0:=hg 0 Aa 0 Aa
   obtain ⟨b,o,sp⟩:=a
   have ha0:((⟨b,o,sp⟩:Addr).add (0 * 7)).add 0=⟨b,o,sp⟩:=by simp [Addr.add]
   rw [ha0] at h0
   cases hb:W.heap[b]? with
   | none=>simp [World.cell?,hb,Nb] at h0
   | some ob =>
     cases ob with
     | cells c el fz =>
       cases sp with
       | some s=>simp [World.cell?,hb,Nb] at h0
       | none =>
         have hadd:∀ k,(⟨b,o,none⟩:Addr).add k=⟨b,o + k,none⟩:=by
          intro k
          unfold Addr.add
          split
          ·rename_i h;subst h;rfl
          ·rfl
         have hadd2:∀ k j,((⟨b,o,none⟩:Addr).add k).add j=⟨b,o + k + j,none⟩:=by
          intro k j
          rw [hadd]
          unfold Addr.add
          split
          ·rename_i h;subst h;rfl
          ·rfl
         simp only [hadd2] at hg
         have hc0:∀ i,i < m→∀ j,j < 7→c.toList[o + i * 7 + j]?=(Nb (g i))[j]?:=fun i hi j hj=>by simpa [World.cell?,hb] using hg i hi j hj
         have hsz:o + len * 7≤c.size:=by
          have h6:=hc0 (len - 1) Aa 6 Aa
          have:o + (len - 1) * 7 + 6 < c.toList.length:=by
           rcases Nat.lt_or_ge (o + (len - 1) * 7 + 6) c.toList.length with h | h
           ·exact h
           ·rw [List.getElem?_eq_none h] at h6;simp [Nb] at h6
          simp at this
          omega
         refine ⟨b,o,c,el,fz,rfl,⟨c,el,fz,hb⟩,hb,hsz,fun i hi=>⟨⟨rfl,rfl⟩,?_⟩⟩
         rw [hgl i hi]
         have e2:(c.toList.drop (o + i * 7)).take 7=Nb (g i):=by
          apply List.ext_getElem?
          intro j
          by_cases hj:j < 7
          ·rw [List.getElem?_take,if_pos hj,List.getElem?_drop,hc0 i Aa j hj]
          ·rw [List.getElem?_take,if_neg hj,List.getElem?_eq_none (by show 7≤j;omega)]
         rw [e2]
         exact Aor _ (g i)
     | _=>simp [World.cell?,hb,Nb] at h0
end Mv
