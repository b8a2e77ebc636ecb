/- A part. -/
import Derived.Test.YtncipgmjhaiagaaGreatDoorHV
import Derived.OpenShut
set_option linter.all false
namespace Mv
open Go Go.ChangeShapes Go.WideShapes
theorem NM {n:Int} (h:(Lit.int .u64 n).wf=true):∃ w:BitVec 64,n=(w.toNat:Int):=by
 have hb:0≤n∧n≤18446744073709551615:=by simpa [Lit.wf,IntKind.min,IntKind.max,IntKind.signed,IntKind.bits] using h
 refine ⟨BitVec.ofNat 64 n.toNat,?_⟩
 rw [BitVec.toNat_ofNat,Nat.mod_eq_of_lt Aa]
 omega
end Mv
namespace Mv
open Go Go.ChangeShapes Go.WideShapes
theorem Aan {H:Type} {enc:TypeId × Value→H} {M:Seat} {W:World} {t:TypeId} {k:IntKind} {v:Value} {d:DataW H} {ps:List MemPlace} (ht:M.P.underlying t=some (.int k))
 {base:Nat} (hok:Value.okWide M.P W .any base t v) (h:DataW.Trod enc M.P W 0 (fun _=>true) true t v d ps):∃ n:Int,(Lit.int k n).wf=true∧RV (HB M W) (.int k n) v:=by
 obtain ⟨n,rfl⟩:=okWide_int ht hok
 obtain ⟨m,hm⟩:=h
 obtain ⟨z,e0,_,wz⟩:=DataW.trod_int ht hm
 simp only [Value.cells,Gp,Value.int.injEq,true_and] at e0
 subst e0
 exact ⟨n,wz,by simp [RV,RS,V.isAgg,R]⟩
theorem UG {H:Type} {enc:TypeId × Value→H} {M:Seat} {W:World} {t e:TypeId} {v:Value} {d:DataW H} {ps:List MemPlace} (ht:M.P.underlying t=some (.slice e)) (he:M.P.underlying e=some (.int .u64)) (ce:M.P.cellsOf e=1)
 {base:Nat} (hok:Value.okWide M.P W .any base t v) (h:DataW.Trod enc M.P W 0 (fun _=>true) true t v d ps):∃ cs cv,(cv=Bn cs ∨ (cv = .nils∧cs=[]))∧cs.length < 9223372036854775808∧RV (HB M W) cv v:=by
 obtain ⟨a,len,cap,rfl⟩:=okWide_slice ht hok
 obtain ⟨n,hn⟩:=h
 rcases Deep.open_slice1 ht ce hn with ⟨h1,_⟩ | ⟨a,len,cap,m,n',V0,D0,P0,hcs,_,hlc,hcm,hm,_,hx⟩
 ·simp [Value.cells] at h1
  obtain ⟨rfl,rfl,rfl⟩:=h1
  exact ⟨[],.nils,.inr ⟨rfl,rfl⟩,by simp,by simp [RV,RS,V.isAgg,R]⟩
 ·simp [Value.cells] at hcs
  obtain ⟨rfl,rfl,rfl⟩:=hcs
  simp only [if_true] at hm
  subst hm
  have hz:∀ i,i < m→∃ c:BitVec 64,V0 i = .int .u64 (c.toNat:Int):=by
   intro i hi
   obtain ⟨_,g0⟩:=hx i hi
   obtain ⟨z0,e0,_,w0⟩:=DataW.trod_int he g0
   simp only [Gp] at e0
   obtain ⟨b0,rfl⟩:=NM w0
   exact ⟨b0,e0⟩
  obtain ⟨g,hg⟩:=Deep.choose_lt hz
  have hgl:∀ j,j < len→((List.range len).map g).getD j 0=g j:=fun j hj=>by simp [List.getD,List.getElem?_map,List.getElem?_range hj]
  refine ⟨(List.range len).map g,_,.inl rfl,?_,?_⟩
  ·simp only [List.length_map,List.length_range]
   have:maxLen < 9223372036854775808:=Ak
   omega
  ·simp only [Bn,List.length_map,List.length_range]
   rw [AL rfl]
   simp only [RS,V.isAgg,R]
   refine ⟨_,_,rfl,hlc,fun hpos=>?_⟩
   have h0:=(hx 0 Aa).1
   obtain ⟨b,o,sp⟩:=a
   have ha0:(⟨b,o,sp⟩:Addr).add 0=⟨b,o,sp⟩:=by simp [Addr.add]
   rw [ha0] at h0
   cases hb:W.heap[b]? with
   | none=>simp [World.cell?,hb] at h0
   | some ob =>
     cases ob with
     | cells c el fz =>
       cases sp with
       | some s=>simp [World.cell?,hb] at h0
       | none =>
         have hadd:∀ k,(⟨b,o,none⟩:Addr).add k=⟨b,o + k,none⟩:=by
          intro k
          unfold Addr.add
          split
          ·rename_i h;subst h;rfl
          ·rfl
         simp only [hadd] at hx
         have hc0:∀ i,i < m→c[o + i]?=some (V0 i):=fun i hi=>by simpa [World.cell?,hb] using (hx i hi).1
         have hsz:o + len * 1≤c.size:=by
          have:=(Array.getElem?_eq_some_iff.1 (hc0 (len - 1) Aa)).1
          omega
         refine ⟨b,o,c,el,fz,rfl,⟨c,el,fz,hb⟩,hb,hsz,fun i hi=>⟨⟨rfl,rfl⟩,?_⟩⟩
         rw [Jf,hgl i hi]
         have e2:(c.toList.drop (o + i * 1)).take 1=[V0 i]:=by
          have a0:c.toList[o + i]?=some (V0 i):=by simpa using hc0 i Aa
          apply List.ext_getElem?
          intro j
          match j with
          | 0=>simp [List.getElem?_take,List.getElem?_drop,hc0 i Aa]
          | j + 1=>simp [List.getElem?_take]
         rw [e2,hg i Aa]
         simp [Mv.W,R]
     | _=>simp [World.cell?,hb] at h0
end Mv
namespace Mv
open Go Go.ChangeShapes Go.WideShapes
def NH (x:In):List Value:=[.int .i64 x.op,.int .i64 x.d,.int .i64 x.a,.int .i64 x.b,.int .i64 x.c,.int .i64 x.n,.int .u64 (x.raw.toNat:Int)]
theorem Aj1 (e:Env) (x:In):R e (XN x) (NH x):=by
 simp [XN,NH,R,V.flo,V.chain,V.size,W,Value.oneCell']
theorem Aad {H:Type} {enc:TypeId × Value→H} {M:Seat} {W:World} {t e:TypeId} {f0 f1 f2 f3 f4 f5 f6:Field} {v:Value} {d:DataW H} {ps:List MemPlace} (ht:M.P.underlying t=some (.slice e))
 (he:M.P.underlying e=some (.struct #[f0,f1,f2,f3,f4,f5,f6])) (ce:M.P.cellsOf e=7)
 (o:f0.offset=0∧f1.offset=1∧f2.offset=2∧f3.offset=3∧f4.offset=4∧f5.offset=5∧f6.offset=6)
 (u0:M.P.underlying f0.type=some (.int .i64)) (u1:M.P.underlying f1.type=some (.int .i64)) (u2:M.P.underlying f2.type=some (.int .i64)) (u3:M.P.underlying f3.type=some (.int .i64)) (u4:M.P.underlying f4.type=some (.int .i64)) (u5:M.P.underlying f5.type=some (.int .i64)) (u6:M.P.underlying f6.type=some (.int .u64))
 (c0:M.P.cellsOf f0.type=1) (c1:M.P.cellsOf f1.type=1) (c2:M.P.cellsOf f2.type=1) (c3:M.P.cellsOf f3.type=1) (c4:M.P.cellsOf f4.type=1) (c5:M.P.cellsOf f5.type=1) (c6:M.P.cellsOf f6.type=1)
 {base:Nat} (hok:Value.okWide M.P W .any base t v) (h:DataW.Trod enc M.P W 0 (fun _=>true) true t v d ps):∃ l cv,Aer l cv∧l.length < 9223372036854775808∧RV (HB M W) cv v:=by
 obtain ⟨o0,o1,o2,o3,o4,o5,o6⟩:=o
 obtain ⟨a,len,cap,rfl⟩:=okWide_slice ht hok
 obtain ⟨n,hn⟩:=h
 rcases Deep.open_slice ht hn with ⟨h1,_⟩ | ⟨a,len,cap,m,n',D,P,hcs,_,hlc,hcm,hm,_,hx⟩
 ·simp [Value.cells] at h1
  obtain ⟨rfl,rfl,rfl⟩:=h1
  exact ⟨[],.nils,.inr ⟨rfl,rfl⟩,by simp,by simp [RV,RS,V.isAgg,R]⟩
 ·simp [Value.cells] at hcs
  obtain ⟨rfl,rfl,rfl⟩:=hcs
  simp only [if_true] at hm
  subst hm
  have hz:∀ i,i < m→∃ x:In,∀ j,j < 7→W.cell? ((a.add (i * 7)).add j)=(NH x)[j]?:=by
   intro i hi
   obtain ⟨cs',h1,h2⟩:=hx i hi
   rw [ce] at h1
   obtain ⟨_,hlen,hcell⟩:=World.cells?_some h1
   obtain ⟨xs,k,_,_,_,hxl,hf⟩:=DataW.trod_struct he h2
   match cs',hlen with
   | [v0, v1, v2, v3, v4, v5, v6], _ =>
     match xs,hxl with
     | [y0, y1, y2, y3, y4, y5, y6], _ =>
       have g0:=hf 0 f0 rfl
       have g1:=hf 1 f1 rfl
       have g2:=hf 2 f2 rfl
       have g3:=hf 3 f3 rfl
       have g4:=hf 4 f4 rfl
       have g5:=hf 5 f5 rfl
       have g6:=hf 6 f6 rfl
       simp [o0,c0] at g0
       simp [o1,c1] at g1
       simp [o2,c2] at g2
       simp [o3,c3] at g3
       simp [o4,c4] at g4
       simp [o5,c5] at g5
       simp [o6,c6] at g6
       obtain ⟨z0,e0,_,w0⟩:=DataW.trod_int u0 g0
       obtain ⟨z1,e1,_,w1⟩:=DataW.trod_int u1 g1
       obtain ⟨z2,e2,_,w2⟩:=DataW.trod_int u2 g2
       obtain ⟨z3,e3,_,w3⟩:=DataW.trod_int u3 g3
       obtain ⟨z4,e4,_,w4⟩:=DataW.trod_int u4 g4
       obtain ⟨z5,e5,_,w5⟩:=DataW.trod_int u5 g5
       obtain ⟨z6,e6,_,w6⟩:=DataW.trod_int u6 g6
       simp only [Gp] at e0 e1 e2 e3 e4 e5 e6
       obtain ⟨b6,rfl⟩:=NM w6
       subst e0 e1 e2 e3 e4 e5 e6
       exact ⟨⟨z0,z1,z2,z3,z4,z5,b6⟩,fun j hj=>hcell j hj⟩
  obtain ⟨g,hg⟩:=Deep.choose_lt hz
  have hgl:∀ j,j < len→((List.range len).map g).getD j default=g j:=fun j hj=>by simp [List.getD,List.getElem?_map,List.getElem?_range hj]
  refine ⟨(List.range len).map g,_,.inl rfl,?_,?_⟩
  ·simp only [List.length_map,List.length_range]
   have:maxLen < 9223372036854775808:=Ak
   omega
  ·simp only [Hl,List.length_map,List.length_range]
   rw [AL rfl]
   simp only [RS,V.isAgg,R]
   refine ⟨_,_,rfl,hlc,fun hpos=>?_⟩
   have h0:=hg 0 Aa 0 Aa
   obtain ⟨b,o,sp⟩:=a
   have ha0:((⟨b,o,sp⟩:Addr).add (0 * 7)).add 0=⟨b,o,sp⟩:=by simp [Addr.add]
   rw [ha0] at h0
   cases hb:W.heap[b]? with
   | none=>simp [World.cell?,hb,NH] at h0
   | some ob =>
     cases ob with
     | cells c el fz =>
       cases sp with
       | some s=>simp [World.cell?,hb,NH] at h0
       | none =>
         have hadd:∀ k,(⟨b,o,none⟩:Addr).add k=⟨b,o + k,none⟩:=by
          intro k
          unfold Addr.add
          split
          ·rename_i h;subst h;rfl
          ·rfl
         have hadd2:∀ k j,((⟨b,o,none⟩:Addr).add k).add j=⟨b,o + k + j,none⟩:=by
          intro k j
          rw [hadd]
          unfold Addr.add
          split
          ·rename_i h;subst h;rfl
          ·rfl
         simp only [hadd2] at hg
         have hc0:∀ i,i < m→∀ j,j < 7→c.toList[o + i * 7 + j]?=(NH (g i))[j]?:=fun i hi j hj=>by simpa [World.cell?,hb] using hg i hi j hj
         have hsz:o + len * 7≤c.size:=by
          have h6:=hc0 (len - 1) Aa 6 Aa
          have:o + (len - 1) * 7 + 6 < c.toList.length:=by
           rcases Nat.lt_or_ge (o + (len - 1) * 7 + 6) c.toList.length with h | h
           ·exact h
           ·rw [List.getElem?_eq_none h] at h6;simp [NH] at h6
          simp at this
          omega
         refine ⟨b,o,c,el,fz,rfl,⟨c,el,fz,hb⟩,hb,hsz,fun i hi=>⟨⟨rfl,rfl⟩,?_⟩⟩
         rw [hgl i hi]
         have e2:(c.toList.drop (o + i * 7)).take 7=NH (g i):=by
          apply List.ext_getElem?
          intro j
          by_cases hj:j < 7
          ·rw [List.getElem?_take,if_pos hj,List.getElem?_drop,hc0 i Aa j hj]
          ·rw [List.getElem?_take,if_neg hj,List.getElem?_eq_none (by show 7≤j;omega)]
         rw [e2]
         exact Aj1 _ (g i)
     | _=>simp [World.cell?,hb,NH] at h0
end Mv
namespace Mv
open Go Go.ChangeShapes Go.WideShapes
end Mv
namespace Mv
open Go Go.ChangeShapes Go.WideShapes
theorem Apf {n:Int} (h:(Lit.int .u8 n).wf=true):∃ w:BitVec 8,n=(w.toNat:Int):=by
 have hb:0≤n∧n≤255:=by simpa [Lit.wf,IntKind.min,IntKind.max,IntKind.signed,IntKind.bits] using h
 refine ⟨BitVec.ofNat 8 n.toNat,?_⟩
 rw [BitVec.toNat_ofNat,Nat.mod_eq_of_lt Aa]
 omega
end Mv
namespace Mv
open Go Go.ChangeShapes Go.WideShapes
instance:Inhabited Pr:=⟨Pr.zero⟩
def Aon (p:Pr):List Value:=(List.range 64).map fun j=>.int .u8 ((p.at j).toNat:Int)
theorem Aoj (p:Pr) (j:Nat) (hj:j < 64):(Aon p)[j]?=some (.int .u8 ((p.at j).toNat:Int)):=by
 simp [Aon,List.getElem?_map,List.getElem?_range hj]
theorem Aph (e:Env) (p:Pr):R e (At p) (Aon p):=by
 simp only [At,R]
 refine ⟨by simp [Aon],fun i hi=>⟨⟨rfl,rfl⟩,?_⟩⟩
 rw [Nat.mul_one]
 have e1:((Aon p).drop i).take 1=[.int .u8 ((p.at i).toNat:Int)]:=by
  apply List.ext_getElem?
  intro j
  match j with
  | 0=>simpa [List.getElem?_take,List.getElem?_drop] using Aoj p i hi
  | j + 1=>simp [List.getElem?_take]
 rw [e1]
 simp [Mv.B,R]
theorem Ao8 {H:Type} {enc:TypeId × Value→H} {M:Seat} {W:World} {t e eb:TypeId} {v:Value} {d:DataW H} {ps:List MemPlace} (ht:M.P.underlying t=some (.slice e))
 (he:M.P.underlying e=some (.array 64 eb)) (ub:M.P.underlying eb=some (.int .u8)) (ce:M.P.cellsOf e=64) (cb:M.P.cellsOf eb=1)
 {base:Nat} (hok:Value.okWide M.P W .any base t v) (h:DataW.Trod enc M.P W 0 (fun _=>true) true t v d ps):∃ n pf pv,Ao9 n pf pv∧n < 9223372036854775808∧RV (HB M W) pv v:=by
 obtain ⟨a,len,cap,rfl⟩:=okWide_slice ht hok
 obtain ⟨n,hn⟩:=h
 rcases Deep.open_slice ht hn with ⟨h1,_⟩ | ⟨a,len,cap,m,n',D,P,hcs,_,hlc,hcm,hm,_,hx⟩
 ·simp [Value.cells] at h1
  obtain ⟨rfl,rfl,rfl⟩:=h1
  exact ⟨0,fun _=>Pr.zero,.nils,.inr ⟨rfl,rfl⟩,by omega,by simp [RV,RS,V.isAgg,R]⟩
 ·simp [Value.cells] at hcs
  obtain ⟨rfl,rfl,rfl⟩:=hcs
  simp only [if_true] at hm
  subst hm
  have hz:∀ i,i < m→∃ x:Pr,∀ j,j < 64→W.cell? ((a.add (i * 64)).add j)=(Aon x)[j]?:=by
   intro i hi
   obtain ⟨cs',h1,h2⟩:=hx i hi
   rw [ce] at h1
   obtain ⟨_,hlen,hcell⟩:=World.cells?_some h1
   obtain ⟨xs,k,_,_,hl,hxl,hf⟩:=DataW.trod_array he h2
   have hz2:∀ j,j < 64→∃ c:BitVec 8,cs'[j]?=some (.int .u8 (c.toNat:Int)):=by
    intro j hj
    have g0:=hf j hj
    rw [cb,Nat.mul_one] at g0
    have hx:∃ y,xs[j]?=some y:=⟨xs[j]'(by omega),by simp [hxl,hj]⟩
    obtain ⟨y,hy⟩:=hx
    rw [hy] at g0
    obtain ⟨z0,e0,_,w0⟩:=DataW.trod_int ub g0
    obtain ⟨b0,rfl⟩:=Apf w0
    refine ⟨b0,?_⟩
    have:=congrArg (fun l=>l[0]?) e0
    simpa [List.getElem?_take,List.getElem?_drop] using this
   obtain ⟨g,hg⟩:=Deep.choose_lt hz2
   refine ⟨Pr.mk' g,fun j hj=>?_⟩
   rw [hcell j hj,hg j hj,Aoj _ _ hj,Pr.at_mk' _ _ hj]
  obtain ⟨g,hg⟩:=Deep.choose_lt hz
  refine ⟨len,g,_,.inl rfl,?_,?_⟩
  ·have:maxLen < 9223372036854775808:=Ak
   omega
  ·rw [AL rfl]
   simp only [RS,V.isAgg,R]
   refine ⟨_,_,rfl,hlc,fun hpos=>?_⟩
   have h0:=hg 0 Aa 0 Aa
   rw [Aoj _ _ Aa] at h0
   obtain ⟨b,o,sp⟩:=a
   have ha0:((⟨b,o,sp⟩:Addr).add (0 * 64)).add 0=⟨b,o,sp⟩:=by simp [Addr.add]
   rw [ha0] at h0
   cases hb:W.heap[b]? with
   | none=>simp [World.cell?,hb] at h0
   | some ob =>
     cases ob with
     | cells c el fz =>
       cases sp with
       | some s=>simp [World.cell?,hb] at h0
       | none =>
         have hadd:∀ k,(⟨b,o,none⟩:Addr).add k=⟨b,o + k,none⟩:=by
          intro k
          unfold Addr.add
          split
          ·rename_i h;subst h;rfl
          ·rfl
         have hadd2:∀ k j,((⟨b,o,none⟩:Addr).add k).add j=⟨b,o + k + j,none⟩:=by
          intro k j
          rw [hadd]
          unfold Addr.add
          split
          ·rename_i h;subst h;rfl
          ·rfl
         simp only [hadd2] at hg
         have hc0:∀ i,i < m→∀ j,j < 64→c.toList[o + i * 64 + j]?=(Aon (g i))[j]?:=fun i hi j hj=>by simpa [World.cell?,hb] using hg i hi j hj
         have hsz:o + len * 64≤c.size:=by
          have h6:=hc0 (len - 1) Aa 63 Aa
          rw [Aoj _ _ Aa] at h6
          have:o + (len - 1) * 64 + 63 < c.toList.length:=by
           rcases Nat.lt_or_ge (o + (len - 1) * 64 + 63) c.toList.length with h | h
           ·exact h
           ·rw [List.getElem?_eq_none h] at h6;cases h6
          simp at this
          omega
         refine ⟨b,o,c,el,fz,rfl,⟨c,el,fz,hb⟩,hb,hsz,fun i hi=>⟨⟨rfl,rfl⟩,?_⟩⟩
         have e2:(c.toList.drop (o + i * 64)).take 64=Aon (g i):=by
          apply List.ext_getElem?
          intro j
          by_cases hj:j < 64
          ·rw [List.getElem?_take,if_pos hj,List.getElem?_drop,hc0 i Aa j hj]
          ·rw [List.getElem?_take,if_neg hj,List.getElem?_eq_none (by simp [Aon];omega)]
         rw [e2]
         exact Aph _ (g i)
     | _=>simp [World.cell?,hb] at h0
end Mv
namespace Mv
open Go Go.ChangeShapes Go.WideShapes
def Auz (x:Spo):List Value:=[.int .i64 x.kd,.int .i64 x.a,.int .i64 x.b,.int .u64 (x.w.toNat:Int)]
theorem Ary (e:Env) (x:Spo):R e (Auy x) (Auz x):=by
 simp [Auy,Auz,spK,R,V.flo,V.chain,V.size,W,Value.oneCell']
theorem Arw {H:Type} {enc:TypeId × Value→H} {M:Seat} {W:World} {t e:TypeId} {f0 f1 f2 f3:Field} {v:Value} {d:DataW H} {ps:List MemPlace} (ht:M.P.underlying t=some (.slice e))
 (he:M.P.underlying e=some (.struct #[f0,f1,f2,f3])) (ce:M.P.cellsOf e=4)
 (o:f0.offset=0∧f1.offset=1∧f2.offset=2∧f3.offset=3)
 (u0:M.P.underlying f0.type=some (.int .i64)) (u1:M.P.underlying f1.type=some (.int .i64)) (u2:M.P.underlying f2.type=some (.int .i64)) (u3:M.P.underlying f3.type=some (.int .u64))
 (c0:M.P.cellsOf f0.type=1) (c1:M.P.cellsOf f1.type=1) (c2:M.P.cellsOf f2.type=1) (c3:M.P.cellsOf f3.type=1)
 {base:Nat} (hok:Value.okWide M.P W .any base t v) (h:DataW.Trod enc M.P W 0 (fun _=>true) true t v d ps):∃ l cv,Arz l cv∧l.length < 9223372036854775808∧RV (HB M W) cv v:=by
 obtain ⟨o0,o1,o2,o3⟩:=o
 obtain ⟨a,len,cap,rfl⟩:=okWide_slice ht hok
 obtain ⟨n,hn⟩:=h
 rcases Deep.open_slice ht hn with ⟨h1,_⟩ | ⟨a,len,cap,m,n',D,P,hcs,_,hlc,hcm,hm,_,hx⟩
 ·simp [Value.cells] at h1
  obtain ⟨rfl,rfl,rfl⟩:=h1
  exact ⟨[],.nils,.inr ⟨rfl,rfl⟩,by simp,by simp [RV,RS,V.isAgg,R]⟩
 ·simp [Value.cells] at hcs
  obtain ⟨rfl,rfl,rfl⟩:=hcs
  simp only [if_true] at hm
  subst hm
  have hz:∀ i,i < m→∃ x:Spo,∀ j,j < 4→W.cell? ((a.add (i * 4)).add j)=(Auz x)[j]?:=by
   intro i hi
   obtain ⟨cs',h1,h2⟩:=hx i hi
   rw [ce] at h1
   obtain ⟨_,hlen,hcell⟩:=World.cells?_some h1
   obtain ⟨xs,k,_,_,_,hxl,hf⟩:=DataW.trod_struct he h2
   match cs',hlen with
   | [v0, v1, v2, v3], _ =>
     match xs,hxl with
     | [y0, y1, y2, y3], _ =>
       have g0:=hf 0 f0 rfl
       have g1:=hf 1 f1 rfl
       have g2:=hf 2 f2 rfl
       have g3:=hf 3 f3 rfl
       simp [o0,c0] at g0
       simp [o1,c1] at g1
       simp [o2,c2] at g2
       simp [o3,c3] at g3
       obtain ⟨z0,e0,_,w0⟩:=DataW.trod_int u0 g0
       obtain ⟨z1,e1,_,w1⟩:=DataW.trod_int u1 g1
       obtain ⟨z2,e2,_,w2⟩:=DataW.trod_int u2 g2
       obtain ⟨z3,e3,_,w3⟩:=DataW.trod_int u3 g3
       simp only [Gp] at e0 e1 e2 e3
       obtain ⟨b3,rfl⟩:=NM w3
       subst e0 e1 e2 e3
       exact ⟨⟨z0,z1,z2,b3⟩,fun j hj=>hcell j hj⟩
  obtain ⟨g,hg⟩:=Deep.choose_lt hz
  have hgl:∀ j,j < len→((List.range len).map g).getD j default=g j:=fun j hj=>by simp [List.getD,List.getElem?_map,List.getElem?_range hj]
  refine ⟨(List.range len).map g,_,.inl rfl,?_,?_⟩
  ·simp only [List.length_map,List.length_range]
   have:maxLen < 9223372036854775808:=Ak
   omega
  ·simp only [Arx,List.length_map,List.length_range]
   rw [AL rfl]
   simp only [RS,V.isAgg,R]
   refine ⟨_,_,rfl,hlc,fun hpos=>?_⟩
   have h0:=hg 0 Aa 0 Aa
   obtain ⟨b,o,sp⟩:=a
   have ha0:((⟨b,o,sp⟩:Addr).add (0 * 4)).add 0=⟨b,o,sp⟩:=by simp [Addr.add]
   rw [ha0] at h0
   cases hb:W.heap[b]? with
   | none=>simp [World.cell?,hb,Auz] at h0
   | some ob =>
     cases ob with
     | cells c el fz =>
       cases sp with
       | some s=>simp [World.cell?,hb,Auz] at h0
       | none =>
         have hadd:∀ k,(⟨b,o,none⟩:Addr).add k=⟨b,o + k,none⟩:=by
          intro k
          unfold Addr.add
          split
          ·rename_i h;subst h;rfl
          ·rfl
         have hadd2:∀ k j,((⟨b,o,none⟩:Addr).add k).add j=⟨b,o + k + j,none⟩:=by
          intro k j
          rw [hadd]
          unfold Addr.add
          split
          ·rename_i h;subst h;rfl
          ·rfl
         simp only [hadd2] at hg
         have hc0:∀ i,i < m→∀ j,j < 4→c.toList[o + i * 4 + j]?=(Auz (g i))[j]?:=fun i hi j hj=>by simpa [World.cell?,hb] using hg i hi j hj
         have hsz:o + len * 4≤c.size:=by
          have h6:=hc0 (len - 1) Aa 3 Aa
          have:o + (len - 1) * 4 + 3 < c.toList.length:=by
           rcases Nat.lt_or_ge (o + (len - 1) * 4 + 3) c.toList.length with h | h
           ·exact h
           ·rw [List.getElem?_eq_none h] at h6;simp [Auz] at h6
          simp at this
          omega
         refine ⟨b,o,c,el,fz,rfl,⟨c,el,fz,hb⟩,hb,hsz,fun i hi=>⟨⟨rfl,rfl⟩,?_⟩⟩
         rw [hgl i hi]
         have e2:(c.toList.drop (o + i * 4)).take 4=Auz (g i):=by
          apply List.ext_getElem?
          intro j
          by_cases hj:j < 4
          ·rw [List.getElem?_take,if_pos hj,List.getElem?_drop,hc0 i Aa j hj]
          ·rw [List.getElem?_take,if_neg hj,List.getElem?_eq_none (by show 4≤j;omega)]
         rw [e2]
         exact Ary _ (g i)
     | _=>simp [World.cell?,hb,Auz] at h0
end Mv
