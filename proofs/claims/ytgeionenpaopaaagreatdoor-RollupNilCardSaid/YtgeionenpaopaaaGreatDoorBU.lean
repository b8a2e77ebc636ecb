/- A part. -/
import Derived.Test.YtgeionenpaopaaaGreatDoorBT
import Derived.Test.YtgeionenpaopaaaGreatDoorChecked
import Derived.WalkKit
import Derived.LaidEql
import Derived.Stop.Asserts
import Derived.RowKitTokens
import Derived.Carry
import Derived.Lib.LaidTab
import Derived.Deep.SlicePairs
import Derived.Test.YtgeionenpaopaaaGreatDoorRows
import Derived.KernelRfl
set_option linter.all false
set_option maxRecDepth 200000
namespace Go.Proofs.YtgeionenpaopaaaGreatDoor
open Go Go.RowKit Go.Extern.Stop Go.Stop Go.Extern
theorem isTypeOf (v:Value) (w:World):(Extern.ReflectliteType.typeOf #[.iface 56 v]).run Tryz.prog w = .ok (.iface 183 (.agg #[.pointer (some ⟨4,56,none⟩)])) w:=by kernel_rfl
def cmpM : Array Value → Sem Value := Extern.ReflectliteType.method fun t => do Extern.Rtype.noPackHeld "Comparable" t; pure (.bool (← typeInfo t).comparable)
theorem isComparable (w:World):(cmpM #[.agg #[.pointer (some ⟨4,56,none⟩)]]).run Tryz.prog w = .ok (.bool true) w:=by kernel_rfl
theorem isMethod (v : Value) (w : World) : (Go.method 476 183 v "Comparable").run Tryz.prog w = .ok (235, v) w := by kernel_rfl
theorem noIs (v:Value) (xT:TypeId) (w:World):(Instr.typeAssert (.iface 56 v) xT 185 true).run Tryz.prog w = .ok (.tuple #[.nilIface,.bool false]) w:=run_typeAssert_lacksB Tryz.underlying185 (by kernel_rfl) (by kernel_rfl) v xT w
theorem noUnwrap (v:Value) (xT:TypeId) (w:World):(Instr.typeAssert (.iface 56 v) xT 188 true).run Tryz.prog w = .ok (.tuple #[.nilIface,.bool false]) w:=run_typeAssert_lacksB Tryz.underlying188 (by kernel_rfl) (by kernel_rfl) v xT w
theorem noUnwraps (v:Value) (xT:TypeId) (w:World):(Instr.typeAssert (.iface 56 v) xT 190 true).run Tryz.prog w = .ok (.tuple #[.nilIface,.bool false]) w:=run_typeAssert_lacksB Tryz.underlying190 (by kernel_rfl) (by kernel_rfl) v xT w
theorem isComp:(Tryz.prog.info? 56).map (·.comparable)=some true:=by kernel_rfl
theorem eql_errno (a b:Int) (w:World):(binOp .eql 25 (.iface 56 (.int .i64 a)) (.iface 56 (.int .i64 b))).run Tryz.prog w = .ok (.bool (decide (a=b))) w:=by
 obtain ⟨i,hi,hcmp⟩:=Option.map_eq_some_iff.1 isComp;have h1:∀ d:Nat,(Op.equalIn (d + 1) 56 (.int .i64 a) (.int .i64 b)).run Tryz.prog w = .ok (decide (a=b)) w:=fun d=>by
  simp only [Op.equalIn,Sem.run_bind,run_underlying Tryz.underlying56,Result.andThen_ok,if_true,Sem.run_pure]
  congr 1
 have h:∀ d:Nat,(Op.equalIn (d + 2) 25 (.iface 56 (.int .i64 a)) (.iface 56 (.int .i64 b))).run Tryz.prog w = .ok (decide (a=b)) w:=fun d=>by
  have:=h1 d;simp [Op.equalIn,run_underlying Tryz.underlying25,typeInfo,hi,hcmp] at this ⊢;exact this
 simp only [binOp];simp [Op.equal,Op.maxDepth,h 9998]
theorem is_errno' (a b:Int) (c:Bool) (hc:decide (a=b)=c) (w:World) :
 Calls Tryz.prog 13 #[.iface 56 (.int .i64 a),.iface 56 (.int .i64 b)] w fun e w'=>e = .returned (.bool c)∧w'=w:=by
 have h8:=@run_callFunc_extern Tryz.prog 44 _ Extern.ReflectliteType.typeOf Tryz.func44 (by kernel_rfl) (by kernel_rfl) (by kernel_rfl) (by kernel_rfl);have h32:=@run_callFunc_extern Tryz.prog 235 _ cmpM Tryz.func235 (by kernel_rfl) (by kernel_rfl) (by kernel_rfl) (by kernel_rfl);have tT:=isTypeOf;have cT:=isComparable;have mR:=isMethod;have nE:=noIs;have uE:=noUnwrap;have vE:=noUnwraps;have heq:=eql_errno a b w;rw [hc] at heq;clear hc;cases c
 ·go_enter Tryz.func13,Tryz.ntmps13
  go_wp2
  refine wp_loop_rounds 1 ?_;rw [rounds_succ]
  go_wp2
  go_ret
  exact ⟨rfl,rfl⟩
 ·go_enter Tryz.func13,Tryz.ntmps13
  go_wp2
  refine wp_loop_rounds 1 ?_;rw [rounds_succ]
  go_wp2
  go_ret
  exact ⟨rfl,rfl⟩
end Go.Proofs.YtgeionenpaopaaaGreatDoor
namespace Mv
open Go
def Kb (M:Seat) (W:World):Env where
 ρ:=fun _=>0
 D:=fun _=>False
 im:=fun b=>∃ cells el fz,W.heap[b]?=some (.cells cells el fz)
 w:=W
 φ:=M.φ
 τ:=M.τ
theorem Inv.start (M:Seat) (W:World) (hg:GS M (Kb M W)):Inv M ⟨Kb M W,fun b=>∃ id,Af [] id=true∧(Kb M W).ρ id=b,0⟩ (Kb M W) [] where
 ev:=⟨rfl,rfl,rfl,Nat.le_refl _,fun _ _ _=>rfl,fun _=>Nat.le_refl _⟩
 blk:=fun id h=>by simp [Af] at h
 inj:=fun i j h=>by simp [Af] at h
 imo:=fun b h=>.inl h
 imb:=fun b h=>.inl h
 rb:=fun id h=>h.elim
 keep:=fun b h=>h
 low:=fun id h=>by simp at h
 gs:=hg
 φ:=rfl
 τ:=rfl
theorem TB {M:Seat} {f:Nat} {us:List V} {vs:Array Value} {Q:V→Hp→Nat→Prop} (hr:As M f us [] 0 Q) (W:World) (hg:GS M (Kb M W)) (ha:Ob (Kb M W) us vs) :
 Calls M.P (M.φ f) vs W fun en W'=>∃ x v H' k' e',en = .returned x∧RV e' v x∧Q v H' k'∧RowKit.Below W.heap.size W W':=by
 refine (hr (Kb M W) vs (Inv.start M W hg) (fun id _ h=>h) ha).mono ?_;rintro en W' ⟨x,v,e',H',k',rfl,rfl,hI,hv,_,_,hQ⟩;refine ⟨x,v,H',k',e',rfl,hv,hQ,hI.ev.os,hI.ev.tape,hI.ev.output,hI.ev.size,fun k hk=>hI.ev.frame k hk ?_⟩;rintro ⟨id,h,_⟩;simp [Af] at h
theorem Zc {M:Seat} {W:World} {name:String} {k:IntKind} {zs:List Int} {g:Nat} (h:Lib.TabIs M.P W name k zs) (hg:M.P.globalNamed name=some g) (hpos:0 < zs.length) :
 R (Kb M W) (.imm (.ar 1 zs.length (fun i=>.int k (zs.getD i 0)))) [.pointer (some ⟨g,0,none⟩)]:=by
 have hc:∀ i,i < zs.length→W.cell? ⟨g,i,none⟩=some (.int k (zs.getD i 0)):=fun i hi=>h.cell hg i hi;have h0:=hc 0 hpos;simp only [R];cases hb:W.heap[g]? with
 | none=>simp [World.cell?,hb] at h0
 | some o =>
   cases o with
   | cells c el fz =>
     have hci:∀ i,i < zs.length→c[i]?=some (.int k (zs.getD i 0)):=fun i hi=>by simpa [World.cell?,hb] using hc i hi
     have hsz:zs.length≤c.size:=by
      have:=hci (zs.length - 1) Aa;have:=(Array.getElem?_eq_some_iff.1 this).1;omega
     refine ⟨g,0,c,el,fz,rfl,⟨c,el,fz,hb⟩,hb,by simp only [V.size];omega,by simp [V.size];omega,fun i hi=>⟨⟨rfl,rfl⟩,?_⟩⟩;simp only [V.size,Nat.mul_one,List.drop_zero];have h1:=hci i hi;have h2:c.toList[i]?=some (.int k (zs.getD i 0)):=Uz;apply List.ext_getElem?;intro j;cases j with
     | zero=>simp [List.getElem?_take,List.getElem?_drop,hi,h1]
     | succ j=>simp [List.getElem?_take]
   | _=>simp [World.cell?,hb] at h0
end Mv
namespace Go.Proofs.YtgeionenpaopaaaGreatDoor
open Go Mv
noncomputable def st:Seat where
 P:=Tryz.prog
 φ:=fun i=>match i with | 0=>0 | 1=>1 | 2=>2 | 42=>3 | 44=>4 | 45=>5 | 51=>66 | 53=>60 | 54=>36 | 55=>65 | 59=>106 | 62=>58 | 63=>13 | 74=>51 | 76=>191 | 93=>105 | 108=>74 | 110=>31 | 112=>37 | 115=>19 | 117=>25 | 118=>26 | 120=>68 | 130=>179 | 131=>180 | 132=>181 | 134=>21 | 135=>17 | 136=>15 | 137=>10 | 140=>57 | 170=>6 | 171=>7 | 172=>8 | 173=>9 | 174=>11 | 175=>12 | 176=>14 | 177=>16 | 179=>77 | 180=>50 | 181=>49 | 182=>75 | 187=>18 | 188=>20 | 189=>22 | 190=>23 | 191=>24 | 192=>27 | 193=>28 | 194=>29 | 195=>30 | 198=>101 | 199=>114 | 200=>99 | 201=>107 | 202=>108 | 206=>52 | 207=>69 | 208=>178 | 210=>44 | 211=>45 | 222=>46 | 223=>47 | 234=>174 | 235=>175 | 236=>176 | 237=>177 | 244=>124 | 246=>62 | 247=>63 | 248=>54 | 249=>32 | 250=>67 | 252=>55 | 258=>76 | 259=>198 | 260=>199 | 261=>56 | 262=>39 | 277=>33 | 278=>34 | 279=>35 | 280=>38 | 281=>40 | 282=>41 | 283=>42 | 284=>43 | 285=>48 | 287=>126 | 288=>80 | 289=>81 | 290=>82 | 291=>83 | 292=>84 | 293=>85 | 294=>86 | 295=>87 | 296=>88 | 297=>89 | 298=>90 | 299=>91 | 300=>92 | 301=>93 | 302=>94 | 303=>95 | 304=>96 | 305=>97 | 306=>78 | 307=>79 | 308=>125 | 309=>71 | 311=>98 | 312=>61 | 313=>53 | 314=>59 | 315=>195 | 316=>172 | 317=>116 | 318=>117 | 319=>72 | 339=>196 | 340=>197 | 344=>104 | 350=>109 | 351=>110 | 352=>111 | 353=>112 | 354=>113 | 355=>115 | 357=>102 | 358=>103 | 360=>70 | 365=>64 | 366=>73 | 367=>189 | 368=>190 | 369=>133 | 370=>134 | 371=>135 | 372=>136 | 373=>137 | 374=>138 | 375=>139 | 376=>140 | 377=>141 | 378=>142 | 379=>143 | 380=>144 | 381=>145 | 382=>146 | 383=>147 | 384=>148 | 385=>149 | 386=>150 | 387=>151 | 388=>152 | 389=>153 | 390=>154 | 391=>155 | 392=>156 | 393=>157 | 394=>158 | 395=>159 | 396=>160 | 397=>161 | 398=>162 | 399=>163 | 400=>164 | 401=>165 | 402=>166 | 403=>167 | 404=>168 | 405=>127 | 406=>128 | 407=>129 | 408=>130 | 409=>131 | 410=>132 | 411=>118 | 413=>169 | 414=>170 | 415=>171 | 416=>100 | 417=>184 | 418=>119 | 419=>120 | 420=>121 | 452=>182 | 453=>183 | 455=>173 | 456=>122 | 457=>123 | 458=>203 | 459=>192 | 460=>193 | 461=>194 | 462=>201 | 487=>200 | 488=>185 | 489=>186 | 490=>187 | 491=>188 | 492=>205 | 493=>204 | 515=>202 | 516=>206 | 517=>207 | 518=>208 | 537=>209 | 538=>210 | 539=>211 | 540=>212 | _=>0
 τ:=fun i=>match i with | 74=>56 | 145=>212 | 394=>219 | 147=>220 | n=>n
 γ:=fun i=>match i with | 1=>1 | 2=>2 | 3=>3 | n=>n
 gl:=[1,2,3]
theorem ck42:Ar st 42 f42=true:=by kernel_rfl
theorem ck51:Ar st 51 f51=true:=by kernel_rfl
theorem ck54:Ar st 54 f54=true:=by kernel_rfl
theorem ck55:Ar st 55 f55=true:=by kernel_rfl
theorem ck59:Ar st 59 f59=true:=by kernel_rfl
theorem ck62:Ar st 62 f62=true:=by kernel_rfl
theorem ck74:Ar st 74 f74=true:=by kernel_rfl
theorem ck76:Ar st 76 f76=true:=by kernel_rfl
theorem ck108:Ar st 108 Aen=true:=by kernel_rfl
theorem ck112:Ar st 112 Axr=true:=by kernel_rfl
theorem ck117:Ar st 117 Ayh=true:=by kernel_rfl
theorem ck120:Ar st 120 Awx=true:=by kernel_rfl
theorem ck135:Ar st 135 Axd=true:=by kernel_rfl
theorem ck136:Ar st 136 Aze=true:=by kernel_rfl
theorem ck137:Ar st 137 Aye=true:=by kernel_rfl
theorem ck170:Ar st 170 Au5=true:=by kernel_rfl
theorem ck171:Ar st 171 Av9=true:=by kernel_rfl
theorem ck172:Ar st 172 Auk=true:=by kernel_rfl
theorem ck173:Ar st 173 Avu=true:=by kernel_rfl
theorem ck174:Ar st 174 Av0=true:=by kernel_rfl
theorem ck175:Ar st 175 Ayy=true:=by kernel_rfl
theorem ck176:Ar st 176 Axv=true:=by kernel_rfl
theorem ck177:Ar st 177 Avx=true:=by kernel_rfl
theorem ck179:Ar st 179 Ahb=true:=by kernel_rfl
theorem ck180:Ar st 180 At9=true:=by kernel_rfl
theorem ck181:Ar st 181 YL=true:=by kernel_rfl
theorem ck182:Ar st 182 Ayp=true:=by kernel_rfl
theorem ck199:Ar st 199 Aw4=true:=by kernel_rfl
theorem ck200:Ar st 200 Azi=true:=by kernel_rfl
theorem ck202:Ar st 202 Awq=true:=by kernel_rfl
theorem ck207:Ar st 207 Ahr=true:=by kernel_rfl
theorem ck208:Ar st 208 Ax7=true:=by kernel_rfl
theorem ck222:Ar st 222 Axm=true:=by kernel_rfl
theorem ck223:Ar st 223 Aya=true:=by kernel_rfl
theorem ck244:Ar st 244 Wf=true:=by kernel_rfl
theorem ck249:Ar st 249 Av2=true:=by kernel_rfl
theorem ck250:Ar st 250 Ayt=true:=by kernel_rfl
theorem ck258:Ar st 258 Axs=true:=by kernel_rfl
theorem ck277:Ar st 277 Aw1=true:=by kernel_rfl
theorem ck278:Ar st 278 Axx=true:=by kernel_rfl
theorem ck280:Ar st 280 Av4=true:=by kernel_rfl
theorem ck281:Ar st 281 Ayu=true:=by kernel_rfl
theorem ck282:Ar st 282 Ax3=true:=by kernel_rfl
theorem ck283:Ar st 283 Awm=true:=by kernel_rfl
theorem ck285:Ar st 285 Awh=true:=by kernel_rfl
theorem ck287:Ar st 287 Ae8=true:=by kernel_rfl
theorem ck288:Ar st 288 Azc=true:=by kernel_rfl
theorem ck289:Ar st 289 Azl=true:=by kernel_rfl
theorem ck290:Ar st 290 Azg=true:=by kernel_rfl
theorem ck291:Ar st 291 Awu=true:=by kernel_rfl
theorem ck292:Ar st 292 Ayi=true:=by kernel_rfl
theorem ck293:Ar st 293 Ay4=true:=by kernel_rfl
theorem ck294:Ar st 294 Awk=true:=by kernel_rfl
theorem ck295:Ar st 295 Awi=true:=by kernel_rfl
theorem ck296:Ar st 296 Axz=true:=by kernel_rfl
theorem ck297:Ar st 297 Ayr=true:=by kernel_rfl
theorem ck298:Ar st 298 Axn=true:=by kernel_rfl
theorem ck299:Ar st 299 Axi=true:=by kernel_rfl
theorem ck300:Ar st 300 Aym=true:=by kernel_rfl
theorem ck301:Ar st 301 Axl=true:=by kernel_rfl
theorem ck302:Ar st 302 Awt=true:=by kernel_rfl
theorem ck303:Ar st 303 Azh=true:=by kernel_rfl
theorem ck304:Ar st 304 Ay5=true:=by kernel_rfl
theorem ck305:Ar st 305 Aza=true:=by kernel_rfl
theorem ck306:Ar st 306 Xu=true:=by kernel_rfl
theorem ck307:Ar st 307 Xz=true:=by kernel_rfl
theorem ck308:Ar st 308 Ayn=true:=by kernel_rfl
theorem ck312:Ar st 312 Au1=true:=by kernel_rfl
theorem ck315:Ar st 315 Aib=true:=by kernel_rfl
theorem ck316:Ar st 316 Axy=true:=by kernel_rfl
theorem ck317:Ar st 317 Aha=true:=by kernel_rfl
theorem ck318:Ar st 318 Akk=true:=by kernel_rfl
theorem ck319:Ar st 319 Ah1=true:=by kernel_rfl
theorem ck355:Ar st 355 Axp=true:=by kernel_rfl
theorem ck365:Ar st 365 Awn=true:=by kernel_rfl
theorem ck366:Ar st 366 Aw9=true:=by kernel_rfl
theorem ck367:Ar st 367 Aig=true:=by kernel_rfl
theorem ck368:Ar st 368 Als=true:=by kernel_rfl
theorem ck369:Ar st 369 Ay1=true:=by kernel_rfl
theorem ck370:Ar st 370 Ayg=true:=by kernel_rfl
theorem ck371:Ar st 371 Ay3=true:=by kernel_rfl
theorem ck372:Ar st 372 Azd=true:=by kernel_rfl
theorem ck373:Ar st 373 Axw=true:=by kernel_rfl
theorem ck374:Ar st 374 Axt=true:=by kernel_rfl
theorem ck375:Ar st 375 Awl=true:=by kernel_rfl
theorem ck376:Ar st 376 Ax2=true:=by kernel_rfl
theorem ck377:Ar st 377 Ay9=true:=by kernel_rfl
theorem ck378:Ar st 378 Axf=true:=by kernel_rfl
theorem ck379:Ar st 379 Axu=true:=by kernel_rfl
theorem ck380:Ar st 380 Ayj=true:=by kernel_rfl
theorem ck381:Ar st 381 Aww=true:=by kernel_rfl
theorem ck382:Ar st 382 Awz=true:=by kernel_rfl
theorem ck383:Ar st 383 Axq=true:=by kernel_rfl
theorem ck384:Ar st 384 Axk=true:=by kernel_rfl
theorem ck385:Ar st 385 Azo=true:=by kernel_rfl
theorem ck386:Ar st 386 Ax5=true:=by kernel_rfl
theorem ck387:Ar st 387 Ayv=true:=by kernel_rfl
theorem ck388:Ar st 388 Ax1=true:=by kernel_rfl
theorem ck389:Ar st 389 Azr=true:=by kernel_rfl
theorem ck390:Ar st 390 Ayk=true:=by kernel_rfl
theorem ck391:Ar st 391 Ay6=true:=by kernel_rfl
theorem ck392:Ar st 392 Azb=true:=by kernel_rfl
theorem ck393:Ar st 393 Azs=true:=by kernel_rfl
theorem ck394:Ar st 394 Azj=true:=by kernel_rfl
theorem ck395:Ar st 395 Ayq=true:=by kernel_rfl
theorem ck396:Ar st 396 Ax9=true:=by kernel_rfl
theorem ck397:Ar st 397 Axo=true:=by kernel_rfl
theorem ck398:Ar st 398 Ayx=true:=by kernel_rfl
theorem ck399:Ar st 399 Ax4=true:=by kernel_rfl
theorem ck400:Ar st 400 Axg=true:=by kernel_rfl
theorem ck401:Ar st 401 Axj=true:=by kernel_rfl
theorem ck402:Ar st 402 Axe=true:=by kernel_rfl
theorem ck403:Ar st 403 Axh=true:=by kernel_rfl
theorem ck404:Ar st 404 Ay0=true:=by kernel_rfl
theorem ck405:Ar st 405 PA=true:=by kernel_rfl
theorem ck406:Ar st 406 XE=true:=by kernel_rfl
theorem ck407:Ar st 407 Ad4=true:=by kernel_rfl
theorem ck408:Ar st 408 Abv=true:=by kernel_rfl
theorem ck409:Ar st 409 Xb=true:=by kernel_rfl
theorem ck410:Ar st 410 Tx=true:=by kernel_rfl
theorem ck417:Ar st 417 Aak=true:=by kernel_rfl
theorem ck418:Ar st 418 Aiu=true:=by kernel_rfl
theorem ck419:Ar st 419 Ajc=true:=by kernel_rfl
theorem ck420:Ar st 420 Ajj=true:=by kernel_rfl
theorem ck456:Ar st 456 Aw8=true:=by kernel_rfl
theorem ck458:Ar st 458 N3=true:=by kernel_rfl
theorem ck459:Ar st 459 XN=true:=by kernel_rfl
theorem ck460:Ar st 460 T9=true:=by kernel_rfl
theorem ck462:Ar st 462 Vr=true:=by kernel_rfl
theorem ck489:Ar st 489 Azk=true:=by kernel_rfl
theorem ck492:Ar st 492 NF=true:=by kernel_rfl
theorem ck493:Ar st 493 Kp=true:=by kernel_rfl
theorem ck515:Ar st 515 Ayd=true:=by kernel_rfl
theorem ck516:Ar st 516 Ii=true:=by kernel_rfl
theorem ck517:Ar st 517 Af6=true:=by kernel_rfl
theorem ck518:Ar st 518 Aid=true:=by kernel_rfl
theorem ck537:Ar st 537 UK=true:=by kernel_rfl
theorem ck538:Ar st 538 Aio=true:=by kernel_rfl
theorem ck539:Ar st 539 Zh=true:=by kernel_rfl
theorem ck540:Ar st 540 Agu=true:=by kernel_rfl
theorem fn399:Fs st 399:=⟨by decide,Tryz.f163,Tryz.func163,by kernel_rfl,by kernel_rfl⟩
theorem fn400:Fs st 400:=⟨by decide,Tryz.f164,Tryz.func164,by kernel_rfl,by kernel_rfl⟩
theorem fn401:Fs st 401:=⟨by decide,Tryz.f165,Tryz.func165,by kernel_rfl,by kernel_rfl⟩
theorem fn402:Fs st 402:=⟨by decide,Tryz.f166,Tryz.func166,by kernel_rfl,by kernel_rfl⟩
theorem okGN:OkGN st:=⟨ck112,ck117,ck120⟩
theorem okLd:OkLd st:=⟨ck222,ck223,ck250,ck258,ck355⟩
theorem okTx:OkTx st:=⟨ck277,ck515,ck489,ck456,ck366,ck282⟩
theorem okRu:OkRu st:=⟨okGN,okLd,okTx,ck249,ck135,ck137,ck170,ck171,ck172,ck173,ck174,ck175,ck176,ck177,ck278,ck280,ck285,ck365⟩
theorem okM:OkM st:=⟨ck51,ck74,ck200,ck207,ck315,ck316,ck317,ck318,ck312,ck417,ck462,ck199,ck202⟩
theorem okH:OkH st:=⟨ck319,ck418,ck419,ck420⟩
theorem okS:OkS st:=⟨okH⟩
theorem okV:OkV st:=⟨okS⟩
theorem okI:OkI st:=⟨okV,ck76⟩
theorem okW:OkW st:=⟨okI⟩
theorem okO:OkO st:=⟨okW,ck308⟩
theorem okTc:OkTc st:=⟨okM,okH,okO,ck281,ck182⟩
theorem okCt:OkCt st:=⟨ck180,ck288,ck289,ck290,ck291,ck292,ck293,ck294,ck295,ck296,ck297,ck298,ck299,ck300,ck301,ck302,ck303,ck304,ck305,ck369,ck370,ck371,ck372,ck373,ck374,ck375,ck376,ck377,ck378,ck379,ck380,ck381,ck382,ck383,ck384,ck385,ck386,ck387,ck388,ck389,ck390,ck391,ck392,ck393,ck394,ck395,ck396,ck397,ck398,ck399,ck400,ck401,ck402,ck403,ck404,fn399,fn400,fn401,fn402⟩
theorem okCk:OkCk st:=⟨ck179,ck287,ck367,ck368,ck458,ck492⟩
theorem okCo:OkCo st:=⟨okCk,okI,ck405,ck407,ck408,ck459,ck493,ck516,ck517,ck518,ck537,ck538,ck539,ck540⟩
theorem okFu:OkFu st:=⟨okCo,ck406⟩
theorem okCd:OkCd st:=⟨okFu,ck306⟩
theorem okNe:OkNe st:=⟨okCd,ck307,ck409,ck410,ck460⟩
theorem okCp:OkCp st:=⟨okNe,ck181⟩
theorem okLm:OkLm st:=⟨okM,ck108,ck244⟩
theorem Avh:OkSt st:=⟨okTc,okCt,okCp,okLm,ck283⟩
theorem okD:OkD st:=⟨ck54,ck55,ck59,ck62,ck208⟩
theorem okPr:OkPr st:=⟨okRu,Avh,okD⟩
theorem is_runs (a b:Int):As st 63 [.ifc 74 (.int .i64 a),.ifc 74 (.int .i64 b)] [] 0 (Q3 (.bool (decide (a=b))) [] 0):=by
 intro e vs hI hD hargs;obtain ⟨hlen,hargs⟩:=hargs;have hτ:e.τ 74=56:=by exact (congrFun hI.τ 74).trans rfl
 match vs,hlen with
 | ⟨[v0, v1]⟩, _ =>
   have h0:=hargs 0;have h1:=hargs 1;simp [RV,RS,V.isAgg,R,hτ] at h0 h1;rw [h0.1,h1.1];refine (is_errno' a b _ rfl e.w).mono ?_;rintro en w' ⟨rfl,rfl⟩;exact ⟨_,.bool _,e,[],0,rfl,rfl,hI,by simp [RV,RS,V.isAgg,R],hD,Nat.le_refl _,rfl,rfl,rfl⟩
theorem okRn:OkRn st:=⟨okPr,ck42,ck136,is_runs⟩
end Go.Proofs.YtgeionenpaopaaaGreatDoor
namespace Mv
end Mv
namespace Mv
def Ln (p:Nat):Nat:=(lanes.getD p 0).toNat
def pos:Nat→Nat
 | 0=>1
 | p + 1=>Ln p
end Mv
namespace Mv
open Go
end Mv
namespace Mv
open Go Go.ChangeShapes Go.WideShapes
end Mv
namespace Mv
open Go Go.ChangeShapes Go.WideShapes
theorem Afo {H:Type} {enc:TypeId × Value→H} {M:Seat} {W:World} {t:TypeId} {k:IntKind} {v:Value} {d:DataW H} {ps:List MemPlace} (ht:M.P.underlying t=some (.int k))
 {base:Nat} (hok:Value.okWide M.P W .any base t v) (h:DataW.Trod enc M.P W 0 (fun _=>true) true t v d ps):∃ n:Int,(Lit.int k n).wf=true∧RV (Kb M W) (.int k n) v:=by
 obtain ⟨n,rfl⟩:=okWide_int ht hok;obtain ⟨m,hm⟩:=h;obtain ⟨z,e0,_,wz⟩:=DataW.trod_int ht hm;simp only [Value.cells,E0,Value.int.injEq,true_and] at e0;subst e0;exact ⟨n,wz,by simp [RV,RS,V.isAgg,R]⟩
end Mv
