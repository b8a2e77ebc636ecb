/- A part. -/
import Derived.Test.YtpcgkiecjakknaaGreatDoorFU
import Derived.Test.YtpcgkiecjakknaaGreatDoorChecked
import Derived.WalkKit
import Derived.LaidEql
import Derived.Stop.Asserts
import Derived.RowKitTokens
import Derived.Test.YtpcgkiecjakknaaGreatDoorRows
import Derived.KernelRfl
import Derived.OpenShut
set_option linter.all false
set_option maxRecDepth 200000
namespace Go.Proofs.YtpcgkiecjakknaaGreatDoor
open Go Go.RowKit Go.Extern.Stop Go.Stop Go.Extern
theorem isTypeOf (v:Value) (w:World):(Extern.ReflectliteType.typeOf #[.iface 55 v]).run Tryz.prog w = .ok (.iface 198 (.agg #[.pointer (some ⟨6,55,none⟩)])) w:=by kernel_rfl
def cmpM : Array Value → Sem Value := Extern.ReflectliteType.method fun t => do Extern.Rtype.noPackHeld "Comparable" t; pure (.bool (← typeInfo t).comparable)
theorem isComparable (w:World):(cmpM #[.agg #[.pointer (some ⟨6,55,none⟩)]]).run Tryz.prog w = .ok (.bool true) w:=by kernel_rfl
theorem isMethod (v : Value) (w : World) : (Go.method 471 198 v "Comparable").run Tryz.prog w = .ok (204, v) w := by kernel_rfl
theorem noIs (v:Value) (xT:TypeId) (w:World):(Instr.typeAssert (.iface 55 v) xT 200 true).run Tryz.prog w = .ok (.tuple #[.nilIface,.bool false]) w:=run_typeAssert_lacksB Tryz.underlying200 (by kernel_rfl) (by kernel_rfl) v xT w
theorem noUnwrap (v:Value) (xT:TypeId) (w:World):(Instr.typeAssert (.iface 55 v) xT 203 true).run Tryz.prog w = .ok (.tuple #[.nilIface,.bool false]) w:=run_typeAssert_lacksB Tryz.underlying203 (by kernel_rfl) (by kernel_rfl) v xT w
theorem noUnwraps (v:Value) (xT:TypeId) (w:World):(Instr.typeAssert (.iface 55 v) xT 205 true).run Tryz.prog w = .ok (.tuple #[.nilIface,.bool false]) w:=run_typeAssert_lacksB Tryz.underlying205 (by kernel_rfl) (by kernel_rfl) v xT w
theorem isComp:(Tryz.prog.info? 55).map (·.comparable)=some true:=by kernel_rfl
theorem eql_errno (a b:Int) (w:World):(binOp .eql 25 (.iface 55 (.int .i64 a)) (.iface 55 (.int .i64 b))).run Tryz.prog w = .ok (.bool (decide (a=b))) w:=by
 obtain ⟨i,hi,hcmp⟩:=Option.map_eq_some_iff.1 isComp
 have h1:∀ d:Nat,(Op.equalIn (d + 1) 55 (.int .i64 a) (.int .i64 b)).run Tryz.prog w = .ok (decide (a=b)) w:=fun d=>by
  simp only [Op.equalIn,Sem.run_bind,run_underlying Tryz.underlying55,Result.andThen_ok,if_true,Sem.run_pure]
  congr 1
 have h:∀ d:Nat,(Op.equalIn (d + 2) 25 (.iface 55 (.int .i64 a)) (.iface 55 (.int .i64 b))).run Tryz.prog w = .ok (decide (a=b)) w:=fun d=>by
  have:=h1 d
  simp [Op.equalIn,run_underlying Tryz.underlying25,typeInfo,hi,hcmp] at this ⊢
  exact this
 simp only [binOp]
 simp [Op.equal,Op.maxDepth,h 9998]
theorem is_errno' (a b:Int) (c:Bool) (hc:decide (a=b)=c) (w:World) :
 Calls Tryz.prog 16 #[.iface 55 (.int .i64 a),.iface 55 (.int .i64 b)] w fun e w'=>e = .returned (.bool c)∧w'=w:=by
 have h8:=@run_callFunc_extern Tryz.prog 51 _ Extern.ReflectliteType.typeOf Tryz.func51 (by kernel_rfl) (by kernel_rfl) (by kernel_rfl) (by kernel_rfl)
 have h32:=@run_callFunc_extern Tryz.prog 204 _ cmpM Tryz.func204 (by kernel_rfl) (by kernel_rfl) (by kernel_rfl) (by kernel_rfl)
 have tT:=isTypeOf
 have cT:=isComparable
 have mR:=isMethod
 have nE:=noIs
 have uE:=noUnwrap
 have vE:=noUnwraps
 have heq:=eql_errno a b w
 rw [hc] at heq
 clear hc
 cases c
 ·go_enter Tryz.func16,Tryz.ntmps16
  go_wp2
  refine wp_loop_rounds 1 ?_
  rw [rounds_succ]
  go_wp2
  go_ret
  exact ⟨rfl,rfl⟩
 ·go_enter Tryz.func16,Tryz.ntmps16
  go_wp2
  refine wp_loop_rounds 1 ?_
  rw [rounds_succ]
  go_wp2
  go_ret
  exact ⟨rfl,rfl⟩
end Go.Proofs.YtpcgkiecjakknaaGreatDoor
namespace Go.Proofs.YtpcgkiecjakknaaGreatDoor
open Go Mv
noncomputable def st:Seat where
 P:=Tryz.prog
 φ:=fun i=>match i with | 35=>9 | 49=>96 | 50=>217 | 51=>94 | 52=>226 | 53=>225 | 54=>56 | 55=>93 | 56=>137 | 59=>121 | 60=>108 | 62=>95 | 63=>16 | 65=>169 | 66=>170 | 68=>55 | 70=>58 | 74=>54 | 76=>53 | 78=>139 | 79=>99 | 90=>141 | 93=>26 | 97=>57 | 98=>88 | 110=>10 | 111=>11 | 112=>12 | 113=>13 | 114=>14 | 115=>15 | 116=>17 | 117=>18 | 118=>19 | 119=>20 | 120=>21 | 126=>24 | 128=>23 | 129=>25 | 130=>27 | 131=>28 | 132=>29 | 133=>30 | 138=>31 | 139=>32 | 140=>33 | 141=>34 | 142=>35 | 143=>36 | 144=>37 | 145=>38 | 146=>39 | 147=>40 | 148=>41 | 149=>42 | 150=>43 | 167=>216 | 197=>90 | 198=>219 | 199=>119 | 200=>118 | 201=>227 | 202=>149 | 203=>161 | 204=>162 | 205=>163 | 206=>107 | 207=>120 | 208=>152 | 209=>136 | 212=>91 | 213=>92 | 214=>98 | 215=>100 | 216=>101 | 217=>102 | 220=>125 | 222=>66 | 223=>67 | 226=>164 | 227=>165 | 228=>166 | 229=>167 | 230=>168 | 241=>97 | 242=>77 | 243=>143 | 246=>44 | 247=>45 | 248=>46 | 249=>47 | 250=>48 | 251=>49 | 252=>50 | 258=>59 | 259=>64 | 260=>65 | 263=>68 | 264=>69 | 265=>70 | 266=>71 | 267=>72 | 268=>73 | 269=>74 | 270=>75 | 271=>76 | 272=>78 | 273=>79 | 276=>218 | 277=>171 | 311=>135 | 312=>157 | 315=>115 | 316=>148 | 317=>150 | 318=>151 | 319=>116 | 320=>117 | 321=>126 | 322=>127 | 323=>128 | 324=>129 | 325=>130 | 328=>133 | 346=>122 | 347=>123 | 348=>124 | 349=>109 | 350=>80 | 351=>81 | 352=>82 | 353=>83 | 354=>84 | 355=>85 | 356=>86 | 357=>87 | 358=>89 | 359=>112 | 361=>105 | 362=>106 | 413=>158 | 414=>159 | 415=>160 | 417=>172 | 418=>145 | 419=>146 | 420=>147 | 449=>138 | 450=>140 | 451=>142 | 452=>110 | 453=>111 | 454=>113 | 455=>114 | 461=>174 | 462=>177 | 487=>144 | 595=>213 | 596=>214 | 597=>215 | 598=>221 | 599=>222 | 600=>223 | 601=>224 | _=>0
 τ:=fun i=>match i with | 74=>55 | 145=>81 | 394=>164 | 147=>83 | 362=>212 | 422=>225 | 426=>257 | n=>n
 γ:=fun i=>match i with | 1=>3 | 2=>4 | 3=>5 | n=>n
 gl:=[1,2,3]
 raw:=[(0,.iface 198 (.agg #[.pointer (some ⟨6,25,none⟩)]))]
theorem fn352:EC st 352:=⟨by decide,Tryz.f82,Tryz.func82,by kernel_rfl,by kernel_rfl⟩
theorem fn220:EC st 220:=⟨by decide,Tryz.f125,Tryz.func125,by kernel_rfl,by kernel_rfl⟩
theorem mth426_0:AG st 426 0 599:=⟨⟨by decide,Tryz.f222,Tryz.func222,by kernel_rfl,by kernel_rfl⟩,fun v w=>by kernel_rfl⟩
theorem mth426_1:AG st 426 1 600:=⟨⟨by decide,Tryz.f223,Tryz.func223,by kernel_rfl,by kernel_rfl⟩,fun v w=>by kernel_rfl⟩
theorem mth426_2:AG st 426 2 598:=⟨⟨by decide,Tryz.f221,Tryz.func221,by kernel_rfl,by kernel_rfl⟩,fun v w=>by kernel_rfl⟩
theorem mth422_0:AG st 422 0 596:=⟨⟨by decide,Tryz.f214,Tryz.func214,by kernel_rfl,by kernel_rfl⟩,fun v w=>by kernel_rfl⟩
theorem mth422_1:AG st 422 1 597:=⟨⟨by decide,Tryz.f215,Tryz.func215,by kernel_rfl,by kernel_rfl⟩,fun v w=>by kernel_rfl⟩
theorem mth422_2:AG st 422 2 595:=⟨⟨by decide,Tryz.f213,Tryz.func213,by kernel_rfl,by kernel_rfl⟩,fun v w=>by kernel_rfl⟩
theorem okGN:OkGN st:=by constructor <;> kernel_rfl
theorem okLd:OkLd st:=by constructor <;> kernel_rfl
theorem okP:OkP st:=by constructor <;> kernel_rfl
theorem okPo:OkPo st:=⟨okP,by kernel_rfl,by kernel_rfl,by kernel_rfl,by kernel_rfl⟩
theorem okGm:OkGm st:=⟨okGN,okLd,okPo,by kernel_rfl,by kernel_rfl,by kernel_rfl,by kernel_rfl⟩
theorem okMv:OkMv st:=⟨okGm,by kernel_rfl,by kernel_rfl,by kernel_rfl,by kernel_rfl,by kernel_rfl,by kernel_rfl,by kernel_rfl,fn352⟩
theorem okCl:OkCl st:=⟨okMv,by kernel_rfl⟩
theorem okLe:OkLe st:=⟨okLd,by kernel_rfl,by kernel_rfl,by kernel_rfl⟩
theorem okGs:OkGs st:=⟨okMv,okCl,okLe,by kernel_rfl,by kernel_rfl,by kernel_rfl,by kernel_rfl⟩
theorem okGt:OkGt st:=⟨okGs,by kernel_rfl⟩
theorem okGr:OkGr st:=⟨okGt,by kernel_rfl⟩
theorem okDp:OkDp st:=by constructor <;> kernel_rfl
theorem okDl:OkDl st:=by constructor <;> kernel_rfl
theorem okDL:OkDL st:=⟨okDl,by kernel_rfl⟩
theorem okDg:OkDg st:=⟨okDp,okDL,by kernel_rfl,by kernel_rfl,by kernel_rfl,by kernel_rfl,by kernel_rfl,by kernel_rfl,by kernel_rfl,by kernel_rfl,by kernel_rfl⟩
theorem okDn:OkDn st:=⟨okDg,by kernel_rfl⟩
theorem as1R (a b:Int):Ag st 93 [erN a,.ifc 394 (.ptr 0 [])] [(0,.int .i64 b)] 1 (Q3 (.bool true) [(0,.int .i64 a)] 1) :=
 Aq7 (g:=0) (gv:=etV) (by simp [st]) (fun n t old w hg ht hf=>(as_num n t old w hg ht hf).mono fun ev w' h=>⟨h.1,_,_,_,_,h.2⟩) a b
theorem as2R (a:Int):Ag st 93 [erN a,.ifc 147 (.ptr 0 [])] [(0,.nilp)] 1 (Q3 (.bool false) [(0,.nilp)] 1) :=
 Aq4 (g:=0) (gv:=etV) (by simp [st]) (fun n t w hg=>(as_miss n t w hg).mono fun ev w' h=>⟨h.1,_,_,_,h.2⟩) a
theorem okN:OkN st:=⟨by kernel_rfl,as1R,as2R⟩
theorem as3R (c e b:Int):Ag st 93 [.ifc 145 (.ptr 0 []),.ifc 394 (.ptr 1 [])] [(0,Bt c e),(1,.int .i64 b)] 2 (Q3 (.bool true) [(0,Bt c e),(1,.int .i64 e)] 2) :=
 IN (g:=0) (gv:=etV) (by simp [st]) (fun n k q t old w hg h0 h1 ht hf=>as_fe n k q t old w hg h0 h1 ht hf) c e b
theorem as4R (c e:Int):Ag st 93 [.ifc 145 (.ptr 0 []),.ifc 147 (.ptr 1 [])] [(0,Bt c e),(1,.nilp)] 2 (Q3 (.bool true) [(0,Bt c e),(1,.ptr 0 [])] 2) :=
 Ju (g:=0) (gv:=etV) (by simp [st]) (fun q t old w hg ht hf=>as_ff q t old w hg ht hf) c e
theorem okWF:OkWF st:=⟨by kernel_rfl,as3R,as4R⟩
theorem okRt:OkRt st:=⟨okN,okWF,by kernel_rfl,by kernel_rfl⟩
theorem okRi:OkRi st:=⟨okLd,okDl,by kernel_rfl⟩
theorem okFx:OkFx st:=⟨okMv,okRi,okWF,by kernel_rfl⟩
theorem okM:OkM st:=by constructor <;> kernel_rfl
theorem okH:OkH st:=by constructor <;> kernel_rfl
theorem okS:OkS st:=⟨okH,by kernel_rfl,by kernel_rfl,by kernel_rfl,by kernel_rfl,by kernel_rfl⟩
theorem okV:OkV st:=⟨okS,by kernel_rfl,by kernel_rfl,by kernel_rfl,by kernel_rfl,by kernel_rfl,fn220⟩
theorem okI:OkI st:=⟨okV,by kernel_rfl⟩
theorem okW:OkW st:=⟨okI,by kernel_rfl⟩
theorem okO:OkO st:=⟨okW⟩
theorem okNx:OkNx st:=by constructor <;> kernel_rfl
theorem okQ:OkQ st:=⟨okM,okO,okNx⟩
theorem okD:OkD st:=by constructor <;> kernel_rfl
theorem okCk:OkCk st:=⟨by kernel_rfl,by kernel_rfl,by kernel_rfl,by kernel_rfl,mth426_0,mth426_1,mth426_2⟩
theorem okPr:OkPr st:=⟨by kernel_rfl,by kernel_rfl,by kernel_rfl,by kernel_rfl,by kernel_rfl,mth422_0,mth422_1,mth422_2⟩
theorem okOs:OkOs st:=⟨okQ,okD,okCk,okPr,by kernel_rfl,by kernel_rfl⟩
theorem okTd:OkTd st:=⟨okOs,okW,by kernel_rfl⟩
theorem okTv:OkTv st:=⟨by kernel_rfl⟩
theorem okB:OkB st:=by constructor <;> kernel_rfl
theorem okW2:OkW2 st:=⟨okB,by kernel_rfl,by kernel_rfl,by kernel_rfl,by kernel_rfl,by kernel_rfl,by kernel_rfl,by kernel_rfl⟩
theorem okRP:OkRP st:=⟨by kernel_rfl⟩
theorem okX:OkX st:=⟨by kernel_rfl⟩
theorem okRM:OkRM st:=⟨okRP,okX⟩
theorem okRS:OkRS st:=⟨okW2,okRM,by kernel_rfl,by kernel_rfl,by kernel_rfl,by kernel_rfl⟩
theorem okRV:OkRV st:=⟨okRS,by kernel_rfl⟩
theorem okV9:OkV9 st:=by constructor <;> kernel_rfl
theorem is_runs (a b:Int):Ag st 63 [.ifc 74 (.int .i64 a),.ifc 74 (.int .i64 b)] [] 0 (Q3 (.bool (decide (a=b))) [] 0):=by
 intro e vs hI hD hargs
 obtain ⟨hlen,hargs⟩:=hargs
 have hτ:e.τ 74=55:=by exact (congrFun hI.τ 74).trans rfl
 match vs,hlen with
 | ⟨[v0, v1]⟩, _ =>
   have h0:=hargs 0
   have h1:=hargs 1
   simp [RV,RS,V.isAgg,R,hτ] at h0 h1
   rw [h0.1,h1.1]
   refine (is_errno' a b _ rfl e.w).mono ?_
   rintro en w' ⟨rfl,rfl⟩
   exact ⟨_,.bool _,e,[],0,rfl,rfl,hI,by simp [RV,RS,V.isAgg,R],hD,Nat.le_refl _,rfl,rfl,rfl⟩
theorem okPy:OkPy st:=⟨okGr,okDn,okRt,okFx,okTd,okTv,okRi,okRV,okV9,is_runs,by kernel_rfl⟩
end Go.Proofs.YtpcgkiecjakknaaGreatDoor
namespace Mv
open Go
end Mv
namespace Mv
open Go Go.ChangeShapes Go.WideShapes
theorem CH {n:Int} (h:(Lit.int .u64 n).wf=true):∃ w:BitVec 64,n=(w.toNat:Int):=by
 have hb:0≤n∧n≤18446744073709551615:=by simpa [Lit.wf,IntKind.min,IntKind.max,IntKind.signed,IntKind.bits] using h
 refine ⟨BitVec.ofNat 64 n.toNat,?_⟩
 rw [BitVec.toNat_ofNat,Nat.mod_eq_of_lt Aa]
 omega
end Mv
namespace Mv
open Go Go.ChangeShapes Go.WideShapes
end Mv
namespace Mv
open Go Go.ChangeShapes Go.WideShapes
def gaC (x:Ga):List Value:=[.int .i64 x.dp,.int .i64 x.pl,.int .i64 x.rt,.int .u64 (x.lm.toNat:Int),.int .u64 (x.gr.toNat:Int),.int .u64 (x.rc.toNat:Int),.int .u64 (x.nw.toNat:Int)]
theorem Ajo (e:Env) (x:Ga):R e x.v (gaC x):=by
 simp [Ga.v,gaC,R,V.flo,V.chain,V.size,W,Value.oneCell']
theorem IQ {H:Type} {enc:TypeId × Value→H} {M:Seat} {W:World} {e:TypeId} {f0 f1 f2 f3 f4 f5 f6:Field} {v:Value} {d:DataW H} {ps:List MemPlace} (he:M.P.underlying e=some (.struct #[f0,f1,f2,f3,f4,f5,f6])) (ce:M.P.cellsOf e=7)
 (o:f0.offset=0∧f1.offset=1∧f2.offset=2∧f3.offset=3∧f4.offset=4∧f5.offset=5∧f6.offset=6)
 (u0:M.P.underlying f0.type=some (.int .i64)) (u1:M.P.underlying f1.type=some (.int .i64)) (u2:M.P.underlying f2.type=some (.int .i64)) (u3:M.P.underlying f3.type=some (.int .u64)) (u4:M.P.underlying f4.type=some (.int .u64)) (u5:M.P.underlying f5.type=some (.int .u64)) (u6:M.P.underlying f6.type=some (.int .u64))
 (c0:M.P.cellsOf f0.type=1) (c1:M.P.cellsOf f1.type=1) (c2:M.P.cellsOf f2.type=1) (c3:M.P.cellsOf f3.type=1) (c4:M.P.cellsOf f4.type=1) (c5:M.P.cellsOf f5.type=1) (c6:M.P.cellsOf f6.type=1)
 {base:Nat} (hok:Value.okWide M.P W .any base e v) (h:DataW.Trod enc M.P W 0 (fun _=>true) true e v d ps):∃ x:Ga,RV (F1 M W) x.v v:=by
 obtain ⟨o0,o1,o2,o3,o4,o5,o6⟩:=o
 obtain ⟨cs,rfl,hsz⟩:=okWide_struct he hok
 obtain ⟨n,hn⟩:=h
 obtain ⟨xs,m,_,_,hl,hxl,hf⟩:=DataW.trod_struct he hn
 rw [ce] at hl
 have hl2:cs.toList.length=7:=by simpa [Value.cells] using hl
 have hcc:(Value.agg cs).cells.toList=cs.toList:=by simp [Value.cells]
 rw [hcc] at hf
 match hcs:cs.toList,hl2 with
 | [a0, a1, a2, a3, a4, a5, a6], _ =>
   rw [hcs] at hf
   match xs,hxl with
   | [y0, y1, y2, y3, y4, y5, y6], _ =>
     have g0:=hf 0 f0 rfl
     have g1:=hf 1 f1 rfl
     have g2:=hf 2 f2 rfl
     have g3:=hf 3 f3 rfl
     have g4:=hf 4 f4 rfl
     have g5:=hf 5 f5 rfl
     have g6:=hf 6 f6 rfl
     simp [o0,c0] at g0
     simp [o1,c1] at g1
     simp [o2,c2] at g2
     simp [o3,c3] at g3
     simp [o4,c4] at g4
     simp [o5,c5] at g5
     simp [o6,c6] at g6
     obtain ⟨z0,e0,_,w0⟩:=DataW.trod_int u0 g0
     obtain ⟨z1,e1,_,w1⟩:=DataW.trod_int u1 g1
     obtain ⟨z2,e2,_,w2⟩:=DataW.trod_int u2 g2
     obtain ⟨z3,e3,_,w3⟩:=DataW.trod_int u3 g3
     obtain ⟨z4,e4,_,w4⟩:=DataW.trod_int u4 g4
     obtain ⟨z5,e5,_,w5⟩:=DataW.trod_int u5 g5
     obtain ⟨z6,e6,_,w6⟩:=DataW.trod_int u6 g6
     simp only [EF] at e0 e1 e2 e3 e4 e5 e6
     obtain ⟨b3,rfl⟩:=CH w3
     obtain ⟨b4,rfl⟩:=CH w4
     obtain ⟨b5,rfl⟩:=CH w5
     obtain ⟨b6,rfl⟩:=CH w6
     subst e0 e1 e2 e3 e4 e5 e6
     refine ⟨⟨z0,z1,z2,b3,b4,b5,b6⟩,?_⟩
     rw [AI rfl]
     refine ⟨cs.toList,by simp,?_⟩
     rw [hcs]
     exact Ajo _ _
end Mv
namespace Mv
open Go Go.ChangeShapes Go.WideShapes
def Yq (x:Op):List Value:=[.int .i64 x.kd,.int .i64 x.cl,.bool x.df,.int .i64 x.vl,.int .i64 x.pl,.int .u64 (x.off.toNat:Int),.int .u64 (x.tn.toNat:Int),.int .u64 (x.wt.toNat:Int)]
theorem Ahh (e:Env) (x:Op):R e x.v (Yq x):=by
 simp [Op.v,Yq,R,V.flo,V.chain,V.size,W,Value.oneCell']
theorem Apo {H:Type} {enc:TypeId × Value→H} {M:Seat} {W:World} {t e:TypeId} {f0 f1 f2 f3 f4 f5 f6 f7:Field} {v:Value} {d:DataW H} {ps:List MemPlace} (ht:M.P.underlying t=some (.slice e)) (he:M.P.underlying e=some (.struct #[f0,f1,f2,f3,f4,f5,f6,f7])) (ce:M.P.cellsOf e=8)
 (o:f0.offset=0∧f1.offset=1∧f2.offset=2∧f3.offset=3∧f4.offset=4∧f5.offset=5∧f6.offset=6∧f7.offset=7)
 (u0:M.P.underlying f0.type=some (.int .i64)) (u1:M.P.underlying f1.type=some (.int .i64)) (u2:M.P.underlying f2.type=some (.bool)) (u3:M.P.underlying f3.type=some (.int .i64)) (u4:M.P.underlying f4.type=some (.int .i64)) (u5:M.P.underlying f5.type=some (.int .u64)) (u6:M.P.underlying f6.type=some (.int .u64)) (u7:M.P.underlying f7.type=some (.int .u64))
 (c0:M.P.cellsOf f0.type=1) (c1:M.P.cellsOf f1.type=1) (c2:M.P.cellsOf f2.type=1) (c3:M.P.cellsOf f3.type=1) (c4:M.P.cellsOf f4.type=1) (c5:M.P.cellsOf f5.type=1) (c6:M.P.cellsOf f6.type=1) (c7:M.P.cellsOf f7.type=1)
 {base:Nat} (hok:Value.okWide M.P W .any base t v) (h:DataW.Trod enc M.P W 0 (fun _=>true) true t v d ps):∃ (n:Nat) (l:Nat→Op) (cv:V),(cv = .lst 8 n (fun j=>(l j).v) ∨ (cv = .nils∧n=0))∧n < 9223372036854775808∧RV (F1 M W) cv v:=by
 obtain ⟨o0,o1,o2,o3,o4,o5,o6,o7⟩:=o
 obtain ⟨a,len,cap,rfl⟩:=okWide_slice ht hok
 obtain ⟨n,hn⟩:=h
 rcases Deep.open_slice ht hn with ⟨h1,_⟩ | ⟨a,len,cap,m,n',D,P,hcs,_,hlc,hcm,hm,_,hx⟩
 ·simp [Value.cells] at h1
  obtain ⟨rfl,rfl,rfl⟩:=h1
  exact ⟨0,fun _=>default,.nils,.inr ⟨rfl,rfl⟩,by decide,by simp [RV,RS,V.isAgg,R]⟩
 ·simp [Value.cells] at hcs
  obtain ⟨rfl,rfl,rfl⟩:=hcs
  simp only [if_true] at hm
  subst hm
  have hz:∀ i,i < m→∃ x:Op,∀ j,j < 8→W.cell? ((a.add (i * 8)).add j)=(Yq x)[j]?:=by
   intro i hi
   obtain ⟨cs',h1,h2⟩:=hx i hi
   rw [ce] at h1
   obtain ⟨_,hlen,hcell⟩:=World.cells?_some h1
   obtain ⟨xs,k,_,_,_,hxl,hf⟩:=DataW.trod_struct he h2
   match cs',hlen with
   | [a0, a1, a2, a3, a4, a5, a6, a7], _ =>
     match xs,hxl with
     | [y0, y1, y2, y3, y4, y5, y6, y7], _ =>
       have g0:=hf 0 f0 rfl
       have g1:=hf 1 f1 rfl
       have g2:=hf 2 f2 rfl
       have g3:=hf 3 f3 rfl
       have g4:=hf 4 f4 rfl
       have g5:=hf 5 f5 rfl
       have g6:=hf 6 f6 rfl
       have g7:=hf 7 f7 rfl
       simp [o0,c0] at g0
       simp [o1,c1] at g1
       simp [o2,c2] at g2
       simp [o3,c3] at g3
       simp [o4,c4] at g4
       simp [o5,c5] at g5
       simp [o6,c6] at g6
       simp [o7,c7] at g7
       obtain ⟨z0,e0,_,w0⟩:=DataW.trod_int u0 g0
       obtain ⟨z1,e1,_,w1⟩:=DataW.trod_int u1 g1
       obtain ⟨z2,e2,_⟩:=DataW.trod_bool u2 g2
       obtain ⟨z3,e3,_,w3⟩:=DataW.trod_int u3 g3
       obtain ⟨z4,e4,_,w4⟩:=DataW.trod_int u4 g4
       obtain ⟨z5,e5,_,w5⟩:=DataW.trod_int u5 g5
       obtain ⟨z6,e6,_,w6⟩:=DataW.trod_int u6 g6
       obtain ⟨z7,e7,_,w7⟩:=DataW.trod_int u7 g7
       simp only [EF] at e0 e1 e2 e3 e4 e5 e6 e7
       obtain ⟨b5,rfl⟩:=CH w5
       obtain ⟨b6,rfl⟩:=CH w6
       obtain ⟨b7,rfl⟩:=CH w7
       subst e0 e1 e2 e3 e4 e5 e6 e7
       exact ⟨⟨z0,z1,z2,z3,z4,b5,b6,b7⟩,fun j hj=>hcell j hj⟩
  obtain ⟨g,hg⟩:=Deep.choose_lt hz
  refine ⟨len,g,_,.inl rfl,?_,?_⟩
  ·have:maxLen < 9223372036854775808:=Am
   omega
  ·rw [AI rfl]
   simp only [RS,V.isAgg,R]
   refine ⟨_,_,rfl,hlc,fun hpos=>?_⟩
   have h0:=hg 0 Aa 0 Aa
   obtain ⟨b,o,sp⟩:=a
   have ha0:((⟨b,o,sp⟩:Addr).add (0 * 8)).add 0=⟨b,o,sp⟩:=by simp [Addr.add]
   rw [ha0] at h0
   cases hb:W.heap[b]? with
   | none=>simp [World.cell?,hb,Yq] at h0
   | some ob =>
     cases ob with
     | cells c el fz =>
       cases sp with
       | some s=>simp [World.cell?,hb,Yq] at h0
       | none =>
         have hadd:∀ k,(⟨b,o,none⟩:Addr).add k=⟨b,o + k,none⟩:=by
          intro k
          unfold Addr.add
          split
          ·rename_i h;subst h;rfl
          ·rfl
         have hadd2:∀ k j,((⟨b,o,none⟩:Addr).add k).add j=⟨b,o + k + j,none⟩:=by
          intro k j
          rw [hadd]
          unfold Addr.add
          split
          ·rename_i h;subst h;rfl
          ·rfl
         simp only [hadd2] at hg
         have hc0:∀ i,i < m→∀ j,j < 8→c.toList[o + i * 8 + j]?=(Yq (g i))[j]?:=fun i hi j hj=>by simpa [World.cell?,hb] using hg i hi j hj
         have hsz:o + len * 8≤c.size:=by
          have h6:=hc0 (len - 1) Aa 7 Aa
          have:o + (len - 1) * 8 + 7 < c.toList.length:=by
           rcases Nat.lt_or_ge (o + (len - 1) * 8 + 7) c.toList.length with h | h
           ·exact h
           ·rw [List.getElem?_eq_none h] at h6;simp [Yq] at h6
          simp at this
          omega
         refine ⟨b,o,c,el,fz,rfl,⟨c,el,fz,hb⟩,hb,hsz,fun i hi=>⟨⟨rfl,rfl⟩,?_⟩⟩
         have e2:(c.toList.drop (o + i * 8)).take 8=Yq (g i):=by
          apply List.ext_getElem?
          intro j
          by_cases hj:j < 8
          ·rw [List.getElem?_take,if_pos hj,List.getElem?_drop,hc0 i Aa j hj]
          ·rw [List.getElem?_take,if_neg hj,List.getElem?_eq_none (by show 8≤j;omega)]
         rw [e2]
         exact Ahh _ (g i)
     | _=>simp [World.cell?,hb,Yq] at h0
end Mv
