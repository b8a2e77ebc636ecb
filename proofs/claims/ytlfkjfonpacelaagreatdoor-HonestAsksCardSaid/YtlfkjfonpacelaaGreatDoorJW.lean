/- A part. -/
import Derived.Test.YtlfkjfonpacelaaGreatDoorJV
import Derived.KernelRfl
import Derived.OpenShut
set_option linter.all false
namespace Mv
open Go
end Mv
namespace Mv
open Go Go.ChangeShapes Go.WideShapes
theorem UE {n:Int} (h:(Lit.int .u64 n).wf=true):∃ w:BitVec 64,n=(w.toNat:Int):=by
 have hb:0≤n∧n≤18446744073709551615:=by simpa [Lit.wf,IntKind.min,IntKind.max,IntKind.signed,IntKind.bits] using h
 refine ⟨BitVec.ofNat 64 n.toNat,?_⟩;rw [BitVec.toNat_ofNat,Nat.mod_eq_of_lt Aa];omega
end Mv
namespace Mv
open Go Go.ChangeShapes Go.WideShapes
theorem Oq {H:Type} {enc:TypeId × Value→H} {M:Seat} {W:World} {t:TypeId} {k:IntKind} {v:Value} {d:DataW H} {ps:List MemPlace} (ht:M.P.underlying t=some (.int k))
 {base:Nat} (hok:Value.okWide M.P W .any base t v) (h:DataW.Trod enc M.P W 0 (fun _=>true) true t v d ps):∃ n:Int,(Lit.int k n).wf=true∧RV (Kd M W) (.int k n) v:=by
 obtain ⟨n,rfl⟩:=okWide_int ht hok;obtain ⟨m,hm⟩:=h;obtain ⟨z,e0,_,wz⟩:=DataW.trod_int ht hm;simp only [Value.cells,Gd,Value.int.injEq,true_and] at e0;subst e0;exact ⟨n,wz,by simp [RV,RS,V.isAgg,R]⟩
end Mv
namespace Mv
open Go Go.ChangeShapes Go.WideShapes
def Pg (x:In):List Value:=[.int .i64 x.op,.int .i64 x.d,.int .i64 x.a,.int .i64 x.b,.int .i64 x.c,.int .i64 x.n,.int .u64 (x.raw.toNat:Int)]
theorem Aro (e:Env) (x:In):R e (Yv x) (Pg x):=by
 simp [Yv,Pg,R,V.flo,V.chain,V.size,W,Value.oneCell']
theorem Agc {H:Type} {enc:TypeId × Value→H} {M:Seat} {W:World} {t e:TypeId} {f0 f1 f2 f3 f4 f5 f6:Field} {v:Value} {d:DataW H} {ps:List MemPlace} (ht:M.P.underlying t=some (.slice e))
 (he:M.P.underlying e=some (.struct #[f0,f1,f2,f3,f4,f5,f6])) (ce:M.P.cellsOf e=7)
 (o:f0.offset=0∧f1.offset=1∧f2.offset=2∧f3.offset=3∧f4.offset=4∧f5.offset=5∧f6.offset=6)
 (u0:M.P.underlying f0.type=some (.int .i64)) (u1:M.P.underlying f1.type=some (.int .i64)) (u2:M.P.underlying f2.type=some (.int .i64)) (u3:M.P.underlying f3.type=some (.int .i64)) (u4:M.P.underlying f4.type=some (.int .i64)) (u5:M.P.underlying f5.type=some (.int .i64)) (u6:M.P.underlying f6.type=some (.int .u64))
 (c0:M.P.cellsOf f0.type=1) (c1:M.P.cellsOf f1.type=1) (c2:M.P.cellsOf f2.type=1) (c3:M.P.cellsOf f3.type=1) (c4:M.P.cellsOf f4.type=1) (c5:M.P.cellsOf f5.type=1) (c6:M.P.cellsOf f6.type=1)
 {base:Nat} (hok:Value.okWide M.P W .any base t v) (h:DataW.Trod enc M.P W 0 (fun _=>true) true t v d ps):∃ l cv,Akr l cv∧l.length < 9223372036854775808∧RV (Kd M W) cv v:=by
 obtain ⟨o0,o1,o2,o3,o4,o5,o6⟩:=o;obtain ⟨a,len,cap,rfl⟩:=okWide_slice ht hok;obtain ⟨n,hn⟩:=h;rcases Deep.open_slice ht hn with ⟨h1,_⟩ | ⟨a,len,cap,m,n',D,P,hcs,_,hlc,hcm,hm,_,hx⟩
 ·simp [Value.cells] at h1;obtain ⟨rfl,rfl,rfl⟩:=h1;exact ⟨[],.nils,.inr ⟨rfl,rfl⟩,by simp,by simp [RV,RS,V.isAgg,R]⟩
 ·simp [Value.cells] at hcs;obtain ⟨rfl,rfl,rfl⟩:=hcs;simp only [if_true] at hm;subst hm;have hz:∀ i,i < m→∃ x:In,∀ j,j < 7→W.cell? ((a.add (i * 7)).add j)=(Pg x)[j]?:=by
   intro i hi;obtain ⟨cs',h1,h2⟩:=hx i hi;rw [ce] at h1;obtain ⟨_,hlen,hcell⟩:=World.cells?_some h1;obtain ⟨xs,k,_,_,_,hxl,hf⟩:=DataW.trod_struct he h2
   match cs',hlen with
   | [v0, v1, v2, v3, v4, v5, v6], _ =>
     match xs,hxl with
     | [y0, y1, y2, y3, y4, y5, y6], _ =>
       have g0:=hf 0 f0 rfl;have g1:=hf 1 f1 rfl;have g2:=hf 2 f2 rfl;have g3:=hf 3 f3 rfl;have g4:=hf 4 f4 rfl;have g5:=hf 5 f5 rfl;have g6:=hf 6 f6 rfl;simp [o0,c0] at g0;simp [o1,c1] at g1;simp [o2,c2] at g2;simp [o3,c3] at g3;simp [o4,c4] at g4;simp [o5,c5] at g5;simp [o6,c6] at g6;obtain ⟨z0,e0,_,w0⟩:=DataW.trod_int u0 g0;obtain ⟨z1,e1,_,w1⟩:=DataW.trod_int u1 g1;obtain ⟨z2,e2,_,w2⟩:=DataW.trod_int u2 g2;obtain ⟨z3,e3,_,w3⟩:=DataW.trod_int u3 g3;obtain ⟨z4,e4,_,w4⟩:=DataW.trod_int u4 g4;obtain ⟨z5,e5,_,w5⟩:=DataW.trod_int u5 g5;obtain ⟨z6,e6,_,w6⟩:=DataW.trod_int u6 g6;simp only [Gd] at e0 e1 e2 e3 e4 e5 e6;obtain ⟨b6,rfl⟩:=UE w6;subst e0 e1 e2 e3 e4 e5 e6;exact ⟨⟨z0,z1,z2,z3,z4,z5,b6⟩,fun j hj=>hcell j hj⟩
  obtain ⟨g,hg⟩:=Deep.choose_lt hz;have hgl:∀ j,j < len→((List.range len).map g).getD j default=g j:=fun j hj=>by simp [List.getD,List.getElem?_map,List.getElem?_range hj]
  refine ⟨(List.range len).map g,_,.inl rfl,?_,?_⟩
  ·simp only [List.length_map,List.length_range];have:maxLen < 9223372036854775808:=Al;omega
  ·simp only [Kl,List.length_map,List.length_range];rw [Bh rfl];simp only [RS,V.isAgg,R];refine ⟨_,_,rfl,hlc,fun hpos=>?_⟩;have h0:=hg 0 Aa 0 Aa;obtain ⟨b,o,sp⟩:=a;have ha0:((⟨b,o,sp⟩:Addr).add (0 * 7)).add 0=⟨b,o,sp⟩:=by simp [Addr.add]
   rw [ha0] at h0;cases hb:W.heap[b]? with
   | none=>simp [World.cell?,hb,Pg] at h0
   | some ob =>
     cases ob with
     | cells c el fz =>
       cases sp with
       | some s=>simp [World.cell?,hb,Pg] at h0
       | none =>
         have hadd:∀ k,(⟨b,o,none⟩:Addr).add k=⟨b,o + k,none⟩:=by
          intro k;unfold Addr.add;split
          ·rename_i h;subst h;rfl
          ·rfl
         have hadd2:∀ k j,((⟨b,o,none⟩:Addr).add k).add j=⟨b,o + k + j,none⟩:=by
          intro k j;rw [hadd];unfold Addr.add;split
          ·rename_i h;subst h;rfl
          ·rfl
         simp only [hadd2] at hg;have hc0:∀ i,i < m→∀ j,j < 7→c.toList[o + i * 7 + j]?=(Pg (g i))[j]?:=fun i hi j hj=>by simpa [World.cell?,hb] using hg i hi j hj
         have hsz:o + len * 7≤c.size:=by
          have h6:=hc0 (len - 1) Aa 6 Aa;have:o + (len - 1) * 7 + 6 < c.toList.length:=by
           rcases Nat.lt_or_ge (o + (len - 1) * 7 + 6) c.toList.length with h | h
           ·exact h
           ·rw [List.getElem?_eq_none h] at h6;simp [Pg] at h6
          simp at this;omega
         refine ⟨b,o,c,el,fz,rfl,⟨c,el,fz,hb⟩,hb,hsz,fun i hi=>⟨⟨rfl,rfl⟩,?_⟩⟩;rw [hgl i hi];have e2:(c.toList.drop (o + i * 7)).take 7=Pg (g i):=by
          apply List.ext_getElem?;intro j;by_cases hj:j < 7
          ·rw [List.getElem?_take,if_pos hj,List.getElem?_drop,hc0 i Aa j hj]
          ·rw [List.getElem?_take,if_neg hj,List.getElem?_eq_none (by show 7≤j;omega)]
         rw [e2];exact Aro _ (g i)
     | _=>simp [World.cell?,hb,Pg] at h0
end Mv
namespace Mv
open Go Go.ChangeShapes Go.WideShapes
def ohC (x:Oh):List Value:=[.int .i64 x.cl,.int .i64 x.vl,.int .i64 x.pl,.bool x.df,.bool x.st,.int .u64 (x.wt.toNat:Int)]
theorem Auq (e:Env) (x:Oh):R e x.v (ohC x):=by
 simp [Oh.v,ohC,R,V.flo,V.chain,V.size,W,Value.oneCell']
theorem Afj {H:Type} {enc:TypeId × Value→H} {M:Seat} {W:World} {t e:TypeId} {f0 f1 f2 f3 f4 f5:Field} {v:Value} {d:DataW H} {ps:List MemPlace} (ht:M.P.underlying t=some (.slice e)) (he:M.P.underlying e=some (.struct #[f0,f1,f2,f3,f4,f5])) (ce:M.P.cellsOf e=6)
 (o:f0.offset=0∧f1.offset=1∧f2.offset=2∧f3.offset=3∧f4.offset=4∧f5.offset=5)
 (u0:M.P.underlying f0.type=some (.int .i64)) (u1:M.P.underlying f1.type=some (.int .i64)) (u2:M.P.underlying f2.type=some (.int .i64)) (u3:M.P.underlying f3.type=some (.bool)) (u4:M.P.underlying f4.type=some (.bool)) (u5:M.P.underlying f5.type=some (.int .u64))
 (c0:M.P.cellsOf f0.type=1) (c1:M.P.cellsOf f1.type=1) (c2:M.P.cellsOf f2.type=1) (c3:M.P.cellsOf f3.type=1) (c4:M.P.cellsOf f4.type=1) (c5:M.P.cellsOf f5.type=1)
 {base:Nat} (hok:Value.okWide M.P W .any base t v) (h:DataW.Trod enc M.P W 0 (fun _=>true) true t v d ps):∃ (n:Nat) (l:Nat→Oh) (cv:V),(cv = .lst 6 n (fun j=>(l j).v) ∨ (cv = .nils∧n=0))∧n < 9223372036854775808∧RV (Kd M W) cv v:=by
 obtain ⟨o0,o1,o2,o3,o4,o5⟩:=o;obtain ⟨a,len,cap,rfl⟩:=okWide_slice ht hok;obtain ⟨n,hn⟩:=h;rcases Deep.open_slice ht hn with ⟨h1,_⟩ | ⟨a,len,cap,m,n',D,P,hcs,_,hlc,hcm,hm,_,hx⟩
 ·simp [Value.cells] at h1;obtain ⟨rfl,rfl,rfl⟩:=h1;exact ⟨0,fun _=>default,.nils,.inr ⟨rfl,rfl⟩,by decide,by simp [RV,RS,V.isAgg,R]⟩
 ·simp [Value.cells] at hcs;obtain ⟨rfl,rfl,rfl⟩:=hcs;simp only [if_true] at hm;subst hm;have hz:∀ i,i < m→∃ x:Oh,∀ j,j < 6→W.cell? ((a.add (i * 6)).add j)=(ohC x)[j]?:=by
   intro i hi;obtain ⟨cs',h1,h2⟩:=hx i hi;rw [ce] at h1;obtain ⟨_,hlen,hcell⟩:=World.cells?_some h1;obtain ⟨xs,k,_,_,_,hxl,hf⟩:=DataW.trod_struct he h2
   match cs',hlen with
   | [a0, a1, a2, a3, a4, a5], _ =>
     match xs,hxl with
     | [y0, y1, y2, y3, y4, y5], _ =>
       have g0:=hf 0 f0 rfl;have g1:=hf 1 f1 rfl;have g2:=hf 2 f2 rfl;have g3:=hf 3 f3 rfl;have g4:=hf 4 f4 rfl;have g5:=hf 5 f5 rfl;simp [o0,c0] at g0;simp [o1,c1] at g1;simp [o2,c2] at g2;simp [o3,c3] at g3;simp [o4,c4] at g4;simp [o5,c5] at g5;obtain ⟨z0,e0,_,w0⟩:=DataW.trod_int u0 g0;obtain ⟨z1,e1,_,w1⟩:=DataW.trod_int u1 g1;obtain ⟨z2,e2,_,w2⟩:=DataW.trod_int u2 g2;obtain ⟨z3,e3,_⟩:=DataW.trod_bool u3 g3;obtain ⟨z4,e4,_⟩:=DataW.trod_bool u4 g4;obtain ⟨z5,e5,_,w5⟩:=DataW.trod_int u5 g5;simp only [Gd] at e0 e1 e2 e3 e4 e5;obtain ⟨b5,rfl⟩:=UE w5;subst e0 e1 e2 e3 e4 e5;exact ⟨⟨z0,z1,z2,z3,z4,b5⟩,fun j hj=>hcell j hj⟩
  obtain ⟨g,hg⟩:=Deep.choose_lt hz;refine ⟨len,g,_,.inl rfl,?_,?_⟩
  ·have:maxLen < 9223372036854775808:=Al;omega
  ·rw [Bh rfl];simp only [RS,V.isAgg,R];refine ⟨_,_,rfl,hlc,fun hpos=>?_⟩;have h0:=hg 0 Aa 0 Aa;obtain ⟨b,o,sp⟩:=a;have ha0:((⟨b,o,sp⟩:Addr).add (0 * 6)).add 0=⟨b,o,sp⟩:=by simp [Addr.add]
   rw [ha0] at h0;cases hb:W.heap[b]? with
   | none=>simp [World.cell?,hb,ohC] at h0
   | some ob =>
     cases ob with
     | cells c el fz =>
       cases sp with
       | some s=>simp [World.cell?,hb,ohC] at h0
       | none =>
         have hadd:∀ k,(⟨b,o,none⟩:Addr).add k=⟨b,o + k,none⟩:=by
          intro k;unfold Addr.add;split
          ·rename_i h;subst h;rfl
          ·rfl
         have hadd2:∀ k j,((⟨b,o,none⟩:Addr).add k).add j=⟨b,o + k + j,none⟩:=by
          intro k j;rw [hadd];unfold Addr.add;split
          ·rename_i h;subst h;rfl
          ·rfl
         simp only [hadd2] at hg;have hc0:∀ i,i < m→∀ j,j < 6→c.toList[o + i * 6 + j]?=(ohC (g i))[j]?:=fun i hi j hj=>by simpa [World.cell?,hb] using hg i hi j hj
         have hsz:o + len * 6≤c.size:=by
          have h6:=hc0 (len - 1) Aa 5 Aa;have:o + (len - 1) * 6 + 5 < c.toList.length:=by
           rcases Nat.lt_or_ge (o + (len - 1) * 6 + 5) c.toList.length with h | h
           ·exact h
           ·rw [List.getElem?_eq_none h] at h6;simp [ohC] at h6
          simp at this;omega
         refine ⟨b,o,c,el,fz,rfl,⟨c,el,fz,hb⟩,hb,hsz,fun i hi=>⟨⟨rfl,rfl⟩,?_⟩⟩;have e2:(c.toList.drop (o + i * 6)).take 6=ohC (g i):=by
          apply List.ext_getElem?;intro j;by_cases hj:j < 6
          ·rw [List.getElem?_take,if_pos hj,List.getElem?_drop,hc0 i Aa j hj]
          ·rw [List.getElem?_take,if_neg hj,List.getElem?_eq_none (by show 6≤j;omega)]
         rw [e2];exact Auq _ (g i)
     | _=>simp [World.cell?,hb,ohC] at h0
end Mv
