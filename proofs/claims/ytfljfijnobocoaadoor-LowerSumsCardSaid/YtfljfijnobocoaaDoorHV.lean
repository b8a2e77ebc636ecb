/- A part. -/
import Derived.Test.YtfljfijnobocoaaDoorHU
import Derived.Test.YtfljfijnobocoaaDoorRows
import Derived.KernelRfl
set_option linter.all false
set_option maxRecDepth 200000
namespace Go.Proofs.YtfljfijnobocoaaDoor
open Go Mv
noncomputable def st:Seat where
 P:=Tryd.prog
 φ:=fun i=>match i with | 0=>0 | 1=>1 | 2=>2 | 24=>3 | 26=>4 | 63=>15 | 68=>24 | 70=>34 | 71=>23 | 74=>16 | 76=>55 | 79=>46 | 89=>7 | 90=>10 | 101=>5 | 102=>6 | 103=>8 | 104=>9 | 105=>11 | 106=>12 | 108=>13 | 109=>14 | 179=>31 | 181=>22 | 197=>35 | 207=>68 | 210=>27 | 211=>28 | 212=>36 | 213=>37 | 214=>45 | 215=>47 | 216=>48 | 217=>49 | 220=>58 | 226=>17 | 227=>18 | 228=>19 | 229=>20 | 230=>21 | 244=>25 | 245=>26 | 259=>91 | 277=>80 | 287=>38 | 306=>32 | 307=>33 | 308=>67 | 312=>77 | 315=>50 | 317=>78 | 318=>79 | 319=>51 | 320=>52 | 321=>59 | 322=>60 | 323=>61 | 324=>62 | 325=>63 | 326=>64 | 327=>65 | 328=>66 | 335=>29 | 336=>30 | 367=>53 | 368=>54 | 405=>39 | 406=>40 | 407=>41 | 408=>42 | 409=>43 | 410=>44 | 417=>86 | 418=>69 | 419=>70 | 420=>71 | 421=>74 | 422=>75 | 423=>76 | 458=>72 | 459=>56 | 460=>57 | 462=>92 | 463=>85 | 492=>81 | 493=>73 | 516=>82 | 517=>83 | 518=>84 | 537=>87 | 538=>88 | 539=>89 | 540=>90 | _=>0
 τ:=fun i=>match i with | 74=>55 | 362=>90 | n=>n
 γ:=fun i=>match i with | 1=>2 | 2=>3 | 3=>4 | n=>n
 gl:=[1,2,3]
theorem ck24:Ar st 24 f24=true:=by kernel_rfl
theorem ck68:Ar st 68 f68=true:=by kernel_rfl
theorem ck70:Ar st 70 f70=true:=by kernel_rfl
theorem ck71:Ar st 71 f71=true:=by kernel_rfl
theorem ck74:Ar st 74 f74=true:=by kernel_rfl
theorem ck76:Ar st 76 f76=true:=by kernel_rfl
theorem ck79:Ar st 79 f79=true:=by kernel_rfl
theorem ck89:Ar st 89 f89=true:=by kernel_rfl
theorem ck90:Ar st 90 ZJ=true:=by kernel_rfl
theorem ck101:Ar st 101 Aip=true:=by kernel_rfl
theorem ck102:Ar st 102 Ahp=true:=by kernel_rfl
theorem ck103:Ar st 103 Ai5=true:=by kernel_rfl
theorem ck104:Ar st 104 Agg=true:=by kernel_rfl
theorem ck105:Ar st 105 Aku=true:=by kernel_rfl
theorem ck106:Ar st 106 Ajg=true:=by kernel_rfl
theorem ck108:Ar st 108 Aen=true:=by kernel_rfl
theorem ck109:Ar st 109 Ain=true:=by kernel_rfl
theorem ck179:Ar st 179 Ahb=true:=by kernel_rfl
theorem ck181:Ar st 181 YL=true:=by kernel_rfl
theorem ck197:Ar st 197 Ala=true:=by kernel_rfl
theorem ck207:Ar st 207 Ahr=true:=by kernel_rfl
theorem ck212:Ar st 212 Akc=true:=by kernel_rfl
theorem ck213:Ar st 213 Ajv=true:=by kernel_rfl
theorem ck214:Ar st 214 Agt=true:=by kernel_rfl
theorem ck215:Ar st 215 Xg=true:=by kernel_rfl
theorem ck216:Ar st 216 Ajn=true:=by kernel_rfl
theorem ck220:Ar st 220 Aj8=true:=by kernel_rfl
theorem ck226:Ar st 226 Aif=true:=by kernel_rfl
theorem ck227:Ar st 227 Li=true:=by kernel_rfl
theorem ck228:Ar st 228 Agc=true:=by kernel_rfl
theorem ck229:Ar st 229 Ahk=true:=by kernel_rfl
theorem ck230:Ar st 230 QV=true:=by kernel_rfl
theorem ck244:Ar st 244 Wf=true:=by kernel_rfl
theorem ck245:Ar st 245 Ak9=true:=by kernel_rfl
theorem ck259:Ar st 259 Td=true:=by kernel_rfl
theorem ck287:Ar st 287 Ae8=true:=by kernel_rfl
theorem ck306:Ar st 306 Xu=true:=by kernel_rfl
theorem ck307:Ar st 307 Xz=true:=by kernel_rfl
theorem ck315:Ar st 315 Aib=true:=by kernel_rfl
theorem ck317:Ar st 317 Aha=true:=by kernel_rfl
theorem ck318:Ar st 318 Akk=true:=by kernel_rfl
theorem ck319:Ar st 319 Ah1=true:=by kernel_rfl
theorem ck320:Ar st 320 US=true:=by kernel_rfl
theorem ck321:Ar st 321 Aep=true:=by kernel_rfl
theorem ck322:Ar st 322 Vu=true:=by kernel_rfl
theorem ck323:Ar st 323 Ajs=true:=by kernel_rfl
theorem ck324:Ar st 324 Nn=true:=by kernel_rfl
theorem ck325:Ar st 325 Ah0=true:=by kernel_rfl
theorem ck335:Ar st 335 Aei=true:=by kernel_rfl
theorem ck336:Ar st 336 Agv=true:=by kernel_rfl
theorem ck367:Ar st 367 Aig=true:=by kernel_rfl
theorem ck368:Ar st 368 Als=true:=by kernel_rfl
theorem ck405:Ar st 405 PA=true:=by kernel_rfl
theorem ck406:Ar st 406 XE=true:=by kernel_rfl
theorem ck407:Ar st 407 Ad4=true:=by kernel_rfl
theorem ck408:Ar st 408 Abv=true:=by kernel_rfl
theorem ck409:Ar st 409 Xb=true:=by kernel_rfl
theorem ck410:Ar st 410 Tx=true:=by kernel_rfl
theorem ck417:Ar st 417 Aak=true:=by kernel_rfl
theorem ck418:Ar st 418 Aiu=true:=by kernel_rfl
theorem ck419:Ar st 419 Ajc=true:=by kernel_rfl
theorem ck420:Ar st 420 Ajj=true:=by kernel_rfl
theorem ck421:Ar st 421 Ah2=true:=by kernel_rfl
theorem ck423:Ar st 423 Ada=true:=by kernel_rfl
theorem ck458:Ar st 458 N3=true:=by kernel_rfl
theorem ck459:Ar st 459 XN=true:=by kernel_rfl
theorem ck460:Ar st 460 T9=true:=by kernel_rfl
theorem ck462:Ar st 462 Vr=true:=by kernel_rfl
theorem ck463:Ar st 463 Ak8=true:=by kernel_rfl
theorem ck492:Ar st 492 NF=true:=by kernel_rfl
theorem ck493:Ar st 493 Kp=true:=by kernel_rfl
theorem ck516:Ar st 516 Ii=true:=by kernel_rfl
theorem ck517:Ar st 517 Af6=true:=by kernel_rfl
theorem ck518:Ar st 518 Aid=true:=by kernel_rfl
theorem ck537:Ar st 537 UK=true:=by kernel_rfl
theorem ck538:Ar st 538 Aio=true:=by kernel_rfl
theorem ck539:Ar st 539 Zh=true:=by kernel_rfl
theorem ck540:Ar st 540 Agu=true:=by kernel_rfl
theorem fn220:Fs st 220:=⟨by decide,Tryd.f58,Tryd.func58,by kernel_rfl,by kernel_rfl⟩
theorem fn101:Fs st 101:=⟨by decide,Tryd.f5,Tryd.func5,by kernel_rfl,by kernel_rfl⟩
theorem fn102:Fs st 102:=⟨by decide,Tryd.f6,Tryd.func6,by kernel_rfl,by kernel_rfl⟩
theorem fn103:Fs st 103:=⟨by decide,Tryd.f8,Tryd.func8,by kernel_rfl,by kernel_rfl⟩
theorem fn104:Fs st 104:=⟨by decide,Tryd.f9,Tryd.func9,by kernel_rfl,by kernel_rfl⟩
theorem okCk:OkCk st:=⟨ck179,ck287,ck367,ck368,ck458,ck492⟩
theorem okH:OkH st:=⟨ck319,ck418,ck419,ck420⟩
theorem okS:OkS st:=⟨okH,ck68,ck212,ck213,ck320⟩
theorem okV:OkV st:=⟨okS,ck70,ck71,ck79,ck214,ck216,ck220,fn220⟩
theorem okI:OkI st:=⟨okV,ck76⟩
theorem okLo:OkLo st:=⟨okCk,okI,ck405⟩
theorem okLp:OkLp st:=⟨okLo,ck459,ck493,ck516,ck537⟩
theorem okLf:OkLf st:=⟨okLp,ck406⟩
theorem okLn:OkLn st:=⟨okLf,ck307,ck409,ck410,ck460⟩
theorem okLc:OkLc st:=⟨okLn,ck181,ck306⟩
theorem okM:OkM st:=⟨ck74,ck197,ck207,ck315,ck317,ck318,ck417,ck462⟩
theorem okLm:OkLm st:=⟨okM,ck108,ck109,ck244,ck245⟩
theorem okL13:OkL13 st:=⟨okLc,okLm,okV,okS,ck106⟩
theorem okCo:OkCo st:=⟨okCk,okI,ck405,ck407,ck408,ck459,ck493,ck516,ck517,ck518,ck537,ck538,ck539,ck540⟩
theorem okFu:OkFu st:=⟨okCo,ck406⟩
theorem okCd:OkCd st:=⟨okFu,ck306⟩
theorem okNe:OkNe st:=⟨okCd,ck307,ck409,ck410,ck460⟩
theorem okCp:OkCp st:=⟨okNe,ck181⟩
theorem okP:OkP st:=⟨ck215,ck321,ck322,ck323,ck324,ck325,ck421,ck423,ck259,ck463⟩
theorem okLS:OkLS st:=⟨okL13,okCp,okP,ck105⟩
theorem okX:OkX st:=⟨ck89,ck90,ck226,ck227,ck228,ck229,ck230,ck335,ck336⟩
theorem okLw:OkLw st:=⟨okLS,okX,ck24,ck101,ck102,ck103,ck104,fn101,fn102,fn103,fn104⟩
end Go.Proofs.YtfljfijnobocoaaDoor
namespace Mv
open Go
end Mv
namespace Mv
open Go Go.ChangeShapes Go.WideShapes
theorem Aas {n:Int} (h:(Lit.int .u64 n).wf=true):∃ w:BitVec 64,n=(w.toNat:Int):=by
 have hb:0≤n∧n≤18446744073709551615:=by simpa [Lit.wf,IntKind.min,IntKind.max,IntKind.signed,IntKind.bits] using h
 refine ⟨BitVec.ofNat 64 n.toNat,?_⟩;rw [BitVec.toNat_ofNat,Nat.mod_eq_of_lt Aa];omega
end Mv
namespace Mv
open Go Go.ChangeShapes Go.WideShapes
theorem JL {H:Type} {enc:TypeId × Value→H} {M:Seat} {W:World} {t:TypeId} {v:Value} {d:DataW H} {ps:List MemPlace} (ht:M.P.underlying t=some (.int .u64))
 {base:Nat} (hok:Value.okWide M.P W .any base t v) (h:DataW.Trod enc M.P W 0 (fun _=>true) true t v d ps):∃ w:BitVec 64,RV (Kb M W) (Mv.W w) v:=by
 obtain ⟨n,rfl⟩:=okWide_int ht hok;obtain ⟨m,hm⟩:=h;obtain ⟨z,e0,_,wz⟩:=DataW.trod_int ht hm;simp only [Value.cells,E0,Value.int.injEq,true_and] at e0;subst e0;obtain ⟨b,rfl⟩:=Aas wz;exact ⟨b,by simp [Mv.W,RV,RS,V.isAgg,R]⟩
theorem Afo {H:Type} {enc:TypeId × Value→H} {M:Seat} {W:World} {t:TypeId} {k:IntKind} {v:Value} {d:DataW H} {ps:List MemPlace} (ht:M.P.underlying t=some (.int k))
 {base:Nat} (hok:Value.okWide M.P W .any base t v) (h:DataW.Trod enc M.P W 0 (fun _=>true) true t v d ps):∃ n:Int,(Lit.int k n).wf=true∧RV (Kb M W) (.int k n) v:=by
 obtain ⟨n,rfl⟩:=okWide_int ht hok;obtain ⟨m,hm⟩:=h;obtain ⟨z,e0,_,wz⟩:=DataW.trod_int ht hm;simp only [Value.cells,E0,Value.int.injEq,true_and] at e0;subst e0;exact ⟨n,wz,by simp [RV,RS,V.isAgg,R]⟩
end Mv
