/- A part. -/
import Derived.Test.YtfljfijnobocoaaDoorHS
set_option linter.all false
set_option maxRecDepth 20000
set_option maxHeartbeats 4000000
namespace Mv
open Go
variable {M:Seat}
theorem Anl (b:BitVec 64) (n:Nat):(b >>> n &&& 1#64=1#64)=(b.getLsbD n=true):=by
 apply propext;have e:(b >>> n &&& 1#64).toNat=(b.getLsbD n).toNat:=by
  rw [BitVec.toNat_and,BitVec.toNat_ushiftRight,show (1#64:BitVec 64).toNat=1 from rfl,Nat.and_one_is_mod,BitVec.getLsbD,Nat.testBit,Nat.shiftRight_eq_div_pow,Nat.one_and_eq_mod_two];rcases Nat.mod_two_eq_zero_or_one (b.toNat / 2 ^ n) with h | h <;> rw [h] <;> rfl
 constructor
 ·intro h;rw [h] at e;cases hb:b.getLsbD n
  ·rw [hb] at e;exact absurd e Ab
  ·rfl
 ·intro h;rw [h] at e;exact BitVec.eq_of_toNat_eq e
def La:=(BK @LZ @Anl)
def ZL (F:BitVec 64) (s:BitVec 64 × BitVec 64):Prop:=s.1.toNat≤64∧∀ j,s.2.getLsbD j=(decide (j < s.1.toNat) && F.getLsbD j)
theorem K7 {w:BitVec 64} (hw:w.toNat < 64):(w + 1#64).toNat=w.toNat + 1:=by
 rw [BitVec.toNat_add,show (1#64:BitVec 64).toNat=1 from rfl];omega
theorem JQ {F w o:BitVec 64} (h:ZL F (w,o)) (hw:w.toNat=64):o=F:=by
 apply BitVec.eq_of_getLsbD_eq;intro i hi;rw [h.2 i,hw,decide_eq_true hi,Bool.true_and]
theorem FM {F w o:BitVec 64} (h:ZL F (w,o)) (hw:w.toNat < 64) (hf:F.getLsbD w.toNat=true):ZL F (w + 1#64,o ||| 1#64 <<< w.toNat):=by
 refine ⟨by show (w + 1#64).toNat≤64;rw [K7 hw];omega,fun j=>?_⟩;show (o ||| 1#64 <<< w.toNat).getLsbD j=(decide (j < (w + 1#64).toNat) && F.getLsbD j)
 rw [K7 hw,BitVec.getLsbD_or,h.2 j];show ((decide (j < w.toNat) && F.getLsbD j) || (1#64 <<< w.toNat).getLsbD j)=_;rw [BitVec.getLsbD_shiftLeft];by_cases h1:j < w.toNat
 ·rw [decide_eq_true h1,decide_eq_true (show j < w.toNat + 1 by omega)];simp
 ·by_cases h2:j=w.toNat
  ·subst h2;simp [hf,hw]
  ·rw [decide_eq_false h1,decide_eq_false (show ¬ j < w.toNat + 1 by omega)];have:(1#64).getLsbD (j - w.toNat)=false:=by
    rw [BitVec.getLsbD_one];simp;omega
   simp [this]
theorem EI {F w o:BitVec 64} (h:ZL F (w,o)) (hw:w.toNat < 64) (hf:F.getLsbD w.toNat=false):ZL F (w + 1#64,o):=by
 refine ⟨by show (w + 1#64).toNat≤64;rw [K7 hw];omega,fun j=>?_⟩;show o.getLsbD j=(decide (j < (w + 1#64).toNat) && F.getLsbD j)
 rw [K7 hw,h.2 j];show (decide (j < w.toNat) && F.getLsbD j)=_;by_cases h2:j=w.toNat
 ·subst h2;simp [hf]
 ·have:decide (j < w.toNat)=decide (j < w.toNat + 1):=by
   by_cases h1:j < w.toNat
   ·rw [decide_eq_true h1,decide_eq_true Aa]
   ·rw [decide_eq_false h1,decide_eq_false Aa]
  rw [this]
theorem C4 {w:BitVec 64} (hw:w.toNat < 64):64 - (w + 1#64).toNat < 64 - w.toNat:=by rw [K7 hw];omega
theorem HB (a b:BitVec 64) (H:Hp):vmm false (W a) (W b) H=⟨True,W (if b < a then b else a),H⟩:=by
 simp only [vmm,W,BitVec.lt_def];by_cases h:b.toNat < a.toNat
 ·rw [if_pos h,if_neg Ab,if_pos Aa]
 ·rw [if_neg h,if_neg Ab,if_neg Aa]
theorem Lc (ok:OkX M) (a b:BitVec 64):As M 230 [.int .i64 13,W a,W b] [] 0 (Q3 (W (F5 13 a b)) [] 0):=by
 refine Ac ok.k230 rfl fun x hx=>?_;generalize hF:F5 13 a b=F;refine eX ?_;simp only [QV,TO,LZ,seval];refine Au (σ:=BitVec 64 × BitVec 64) (ZL F) (fun s=>fr 81 [(0,.int .i64 13),(1,W a),(2,W b),(7,W s.2),(8,W s.1)]) (fun _=>[]) (fun _=>0) (fun s=>64 - s.1.toNat) (0#64,0#64) ?_ ?_ ?_
 ·refine ⟨by decide,fun j=>?_⟩;show (0#64).getLsbD j=(decide (j < 0) && F.getLsbD j)
  simp
 ·refine Av.fr [] [] hx Bg Ab ?_ ?_
  ·simp only [LY,seval]
  ·trivial
 ·rintro ⟨w,o⟩ hI;refine eX ?_;rcases Classical.propComplete (w < 64#64) with hw | hw
  ·have hw':w.toNat < 64:=Wh;rcases Classical.propComplete (a≤w) with h1 | h1
   ·have h1':=of_eq_true h1;rw [BitVec.le_def] at h1';have hs:(w - a).toNat=w.toNat - a.toNat:=by rw [BitVec.toNat_sub];have:=a.isLt;omega
    have g1:(w - a < 64#64)=True:=eq_true zq6;have hg:F.getLsbD w.toNat=b.getLsbD (w - a).toNat:=by
     rw [← hF,hs,F5];show (b <<< a.toNat).getLsbD w.toNat=_;rw [BitVec.getLsbD_shiftLeft,decide_eq_true hw',decide_eq_false (show ¬ w.toNat < a.toNat by omega)];simp
    cases hb:b.getLsbD ((w - a).toNat)
    ·have hf:F.getLsbD w.toNat=false:=GC;simp only [hw,La,h1,g1,hb,seval];refine ⟨(w + 1#64,o),EI hI hw' hf,C4 hw',?_⟩;refine Av.fr [] [] hx Bg Ab ?_ ?_
     ·simp only [LY,seval]
     ·trivial
    ·have hf:F.getLsbD w.toNat=true:=GC;simp only [hw,La,h1,g1,hb,seval];refine ⟨(w + 1#64,o ||| 1#64 <<< w.toNat),FM hI hw' hf,C4 hw',?_⟩;refine Av.fr [] [] hx Bg Ab ?_ ?_
     ·simp only [LY,seval]
     ·trivial
   ·have h1':=of_eq_false h1;rw [BitVec.le_def] at h1';have hf:F.getLsbD w.toNat=false:=by
     rw [← hF,F5];show (b <<< a.toNat).getLsbD w.toNat=_;rw [BitVec.getLsbD_shiftLeft,decide_eq_true (show w.toNat < a.toNat by omega)];simp
    simp only [hw,La,h1,seval];refine ⟨(w + 1#64,o),EI hI hw' hf,C4 hw',?_⟩;refine Av.fr [] [] hx Bg Ab ?_ ?_
    ·simp only [LY,seval]
    ·trivial
  ·have hw':w.toNat=64:=by
    have:=of_eq_false hw;rw [BitVec.lt_def] at this;have h2:=hI.1;have e:(64#64:BitVec 64).toNat=64:=rfl;dsimp only at h2;omega
   have e:=JQ hI hw';subst e;simp only [hw,LZ,seval];exact Ay.mkZ hx [] ⟨rfl,rfl,rfl⟩
theorem KV (ok:OkX M) (a b:BitVec 64):As M 230 [.int .i64 14,W a,W b] [] 0 (Q3 (W (F5 14 a b)) [] 0):=by
 refine Ac ok.k230 rfl fun x hx=>?_;generalize hF:F5 14 a b=F;refine eX ?_;simp only [QV,TO,LZ,seval];refine Au (σ:=BitVec 64 × BitVec 64) (ZL F) (fun s=>fr 81 [(0,.int .i64 14),(1,W a),(2,W b),(7,W s.2),(8,W s.1)]) (fun _=>[]) (fun _=>0) (fun s=>64 - s.1.toNat) (0#64,0#64) ?_ ?_ ?_
 ·refine ⟨by decide,fun j=>?_⟩;show (0#64).getLsbD j=(decide (j < 0) && F.getLsbD j)
  simp
 ·refine Av.fr [] [] hx Bg Ab ?_ ?_
  ·simp only [LY,seval]
  ·trivial
 ·rintro ⟨w,o⟩ hI;refine eX ?_;rcases Classical.propComplete (w < 64#64) with hw | hw
  ·have hw':w.toNat < 64:=Wh;have h64:(64#64 - w).toNat=64 - w.toNat:=Aol;rcases Classical.propComplete (a < 64#64 - w) with h1 | h1
   ·have h1':=of_eq_true h1;rw [BitVec.lt_def,h64] at h1';have hs:(w + a).toNat=a.toNat + w.toNat:=by rw [BitVec.toNat_add];omega
    have g1:(w + a < 64#64)=True:=eq_true zq6;have hg:F.getLsbD w.toNat=b.getLsbD (w + a).toNat:=by
     rw [← hF,hs,F5];show (b >>> a.toNat).getLsbD w.toNat=_;rw [BitVec.getLsbD_ushiftRight]
    cases hb:b.getLsbD ((w + a).toNat)
    ·have hf:F.getLsbD w.toNat=false:=GC;simp only [hw,La,h1,g1,hb,seval];refine ⟨(w + 1#64,o),EI hI hw' hf,C4 hw',?_⟩;refine Av.fr [] [] hx Bg Ab ?_ ?_
     ·simp only [LY,seval]
     ·trivial
    ·have hf:F.getLsbD w.toNat=true:=GC;simp only [hw,La,h1,g1,hb,seval];refine ⟨(w + 1#64,o ||| 1#64 <<< w.toNat),FM hI hw' hf,C4 hw',?_⟩;refine Av.fr [] [] hx Bg Ab ?_ ?_
     ·simp only [LY,seval]
     ·trivial
   ·have h1':=of_eq_false h1;rw [BitVec.lt_def,h64] at h1';have hf:F.getLsbD w.toNat=false:=by
     rw [← hF,F5];show (b >>> a.toNat).getLsbD w.toNat=_;rw [BitVec.getLsbD_ushiftRight];exact BitVec.getLsbD_of_ge _ _ Aa
    simp only [hw,La,h1,seval];refine ⟨(w + 1#64,o),EI hI hw' hf,C4 hw',?_⟩;refine Av.fr [] [] hx Bg Ab ?_ ?_
    ·simp only [LY,seval]
    ·trivial
  ·have hw':w.toNat=64:=by
    have:=of_eq_false hw;rw [BitVec.lt_def] at this;have h2:=hI.1;have e:(64#64:BitVec 64).toNat=64:=rfl;dsimp only at h2;omega
   have e:=JQ hI hw';subst e;simp only [hw,LZ,seval];exact Ay.mkZ hx [] ⟨rfl,rfl,rfl⟩
theorem Lq (ok:OkX M) (a b:BitVec 64):As M 230 [.int .i64 15,W a,W b] [] 0 (Q3 (W (F5 15 a b)) [] 0):=by
 refine Ac ok.k230 rfl fun x hx=>?_;generalize hF:F5 15 a b=F;refine eX ?_;simp only [QV,TO,LZ,seval];refine Au (σ:=BitVec 64 × BitVec 64) (ZL F) (fun s=>fr 81 [(0,.int .i64 15),(1,W a),(2,W b),(7,W s.2),(8,W s.1)]) (fun _=>[]) (fun _=>0) (fun s=>64 - s.1.toNat) (0#64,0#64) ?_ ?_ ?_
 ·refine ⟨by decide,fun j=>?_⟩;show (0#64).getLsbD j=(decide (j < 0) && F.getLsbD j)
  simp
 ·refine Av.fr [] [] hx Bg Ab ?_ ?_
  ·simp only [LY,seval]
  ·trivial
 ·rintro ⟨w,o⟩ hI;refine eX ?_;rcases Classical.propComplete (w < 64#64) with hw | hw
  ·have hw':w.toNat < 64:=Wh;have h64:(64#64 - w).toNat=64 - w.toNat:=Aol;rcases Classical.propComplete (a < 64#64 - w) with h1 | h1
   ·have h1':=of_eq_true h1;rw [BitVec.lt_def,h64] at h1';have hs:(w + a).toNat=a.toNat + w.toNat:=by rw [BitVec.toNat_add];omega
    have g1:(w + a < 64#64)=True:=eq_true zq6;have hg:F.getLsbD w.toNat=b.getLsbD (w + a).toNat:=by
     rw [← hF,hs,F5];show (b.sshiftRight a.toNat).getLsbD w.toNat=_;rw [BitVec.getLsbD_sshiftRight,decide_eq_false (show ¬ 64≤w.toNat by omega),if_pos Aa];simp
    cases hb:b.getLsbD ((w + a).toNat)
    ·have hf:F.getLsbD w.toNat=false:=GC;simp only [hw,La,h1,g1,hb,seval];refine ⟨(w + 1#64,o),EI hI hw' hf,C4 hw',?_⟩;refine Av.fr [] [] hx Bg Ab ?_ ?_
     ·simp only [LY,seval]
     ·trivial
    ·have hf:F.getLsbD w.toNat=true:=GC;simp only [hw,La,h1,g1,hb,seval];refine ⟨(w + 1#64,o ||| 1#64 <<< w.toNat),FM hI hw' hf,C4 hw',?_⟩;refine Av.fr [] [] hx Bg Ab ?_ ?_
     ·simp only [LY,seval]
     ·trivial
   ·have h1':=of_eq_false h1;rw [BitVec.lt_def,h64] at h1';have hg:F.getLsbD w.toNat=b.getLsbD 63:=by
     rw [← hF,F5];show (b.sshiftRight a.toNat).getLsbD w.toNat=_;rw [BitVec.getLsbD_sshiftRight,decide_eq_false (show ¬ 64≤w.toNat by omega),if_neg Aa,BitVec.msb_eq_getLsbD_last];simp
    cases hb:b.getLsbD (63)
    ·have hf:F.getLsbD w.toNat=false:=GC;simp only [hw,La,h1,hb,seval];refine ⟨(w + 1#64,o),EI hI hw' hf,C4 hw',?_⟩;refine Av.fr [] [] hx Bg Ab ?_ ?_
     ·simp only [LY,seval]
     ·trivial
    ·have hf:F.getLsbD w.toNat=true:=GC;simp only [hw,La,h1,hb,seval];refine ⟨(w + 1#64,o ||| 1#64 <<< w.toNat),FM hI hw' hf,C4 hw',?_⟩;refine Av.fr [] [] hx Bg Ab ?_ ?_
     ·simp only [LY,seval]
     ·trivial
  ·have hw':w.toNat=64:=by
    have:=of_eq_false hw;rw [BitVec.lt_def] at this;have h2:=hI.1;have e:(64#64:BitVec 64).toNat=64:=rfl;dsimp only at h2;omega
   have e:=JQ hI hw';subst e;simp only [hw,LZ,seval];exact Ay.mkZ hx [] ⟨rfl,rfl,rfl⟩
theorem Lp (ok:OkX M) (a b:BitVec 64):As M 230 [.int .i64 12,W a,W b] [] 0 (Q3 (W (F5 12 a b)) [] 0):=by
 refine Ac ok.k230 rfl fun x hx=>?_;generalize hF:F5 12 a b=F;refine eX ?_;simp only [QV,TO,LZ,seval];refine Au (σ:=BitVec 64 × BitVec 64) (ZL F) (fun s=>fr 81 [(0,.int .i64 12),(1,W a),(2,W b),(7,W s.2),(8,W s.1)]) (fun _=>[]) (fun _=>0) (fun s=>64 - s.1.toNat) (0#64,0#64) ?_ ?_ ?_
 ·refine ⟨by decide,fun j=>?_⟩;show (0#64).getLsbD j=(decide (j < 0) && F.getLsbD j)
  simp
 ·refine Av.fr [] [] hx Bg Ab ?_ ?_
  ·simp only [LY,seval]
  ·trivial
 ·rintro ⟨w,o⟩ hI;refine eX ?_;rcases Classical.propComplete (w < 64#64) with hw | hw
  ·have hw':w.toNat < 64:=Wh;rcases Classical.propComplete (w < 8#64) with h1 | h1
   ·have h1':=of_eq_true h1;rw [BitVec.lt_def] at h1';have h1':w.toNat < 8:=h1';rcases Classical.propComplete (a < 8#64) with h2 | h2
    ·have h2':=of_eq_true h2;rw [BitVec.lt_def] at h2';have h2':a.toNat < 8:=h2';have h7:(7#64 < a)=False:=eq_false (by rw [BitVec.lt_def];show ¬ 7 < _;omega);have hm:(8#64 * a).toNat=8 * a.toNat:=by rw [BitVec.toNat_mul];show 8 * a.toNat % 2 ^ 64=_;omega
     have h56:(56#64 - 8#64 * a).toNat=56 - 8 * a.toNat:=by rw [BitVec.toNat_sub,hm];show (2 ^ 64 - 8 * a.toNat + 56) % 2 ^ 64=_;omega
     have hs:(56#64 - 8#64 * a + w).toNat=56 - 8 * a.toNat + w.toNat:=by rw [BitVec.toNat_add,h56];omega
     have g1:(56#64 - 8#64 * a + w < 64#64)=True:=eq_true zq6;have hg:F.getLsbD w.toNat=b.getLsbD (56#64 - 8#64 * a + w).toNat:=by
      rw [← hF,hs,F5,if_neg Ab,if_pos rfl,if_neg (of_eq_false h7)];show ((b >>> (56#64 - 8#64 * a).toNat) &&& 255#64).getLsbD w.toNat=_;rw [h56,BitVec.getLsbD_and,BitVec.getLsbD_ushiftRight];have:∀ i,i < 8→(255#64).getLsbD i=true:=Ab;rw [this _ h1',Bool.and_true]
     cases hb:b.getLsbD ((56#64 - 8#64 * a + w).toNat)
     ·have hf:F.getLsbD w.toNat=false:=GC;simp only [hw,La,HB,h7,h1,h2,g1,hb,seval];refine ⟨(w + 1#64,o),EI hI hw' hf,C4 hw',?_⟩;refine Av.fr [] [] hx Bg Ab ?_ ?_
      ·simp only [LY,seval]
      ·trivial
     ·have hf:F.getLsbD w.toNat=true:=GC;simp only [hw,La,HB,h7,h1,h2,g1,hb,seval];refine ⟨(w + 1#64,o ||| 1#64 <<< w.toNat),FM hI hw' hf,C4 hw',?_⟩;refine Av.fr [] [] hx Bg Ab ?_ ?_
      ·simp only [LY,seval]
      ·trivial
    ·have h2':=of_eq_false h2;rw [BitVec.lt_def] at h2';have h2':¬ a.toNat < 8:=h2';have h7:(7#64 < a)=True:=eq_true (by rw [BitVec.lt_def];show 7 < _;omega);have hf:F.getLsbD w.toNat=false:=by
      rw [← hF,F5,if_neg Ab,if_pos rfl,if_pos (of_eq_true h7)];simp
     simp only [hw,La,HB,h7,h1,h2,seval];refine ⟨(w + 1#64,o),EI hI hw' hf,C4 hw',?_⟩;refine Av.fr [] [] hx Bg Ab ?_ ?_
     ·simp only [LY,seval]
     ·trivial
   ·have h1':=of_eq_false h1;rw [BitVec.lt_def] at h1';have h1':¬ w.toNat < 8:=h1';have hf:F.getLsbD w.toNat=false:=by
     rw [← hF,F5,if_neg Ab,if_pos rfl];split
     ·simp
     ·rw [BitVec.getLsbD_and];have:(255#64).getLsbD w.toNat=false:=by
       have:∀ i,i < 64→¬ i < 8→(255#64).getLsbD i=false:=Ab;exact this _ hw' h1'
      rw [this,Bool.and_false]
    rcases Classical.propComplete (7#64 < a) with h7 | h7
    ·skip
     simp only [hw,La,HB,h7,h1,seval];refine ⟨(w + 1#64,o),EI hI hw' hf,C4 hw',?_⟩;refine Av.fr [] [] hx Bg Ab ?_ ?_
     ·simp only [LY,seval]
     ·trivial
    ·skip
     simp only [hw,La,HB,h7,h1,seval];refine ⟨(w + 1#64,o),EI hI hw' hf,C4 hw',?_⟩;refine Av.fr [] [] hx Bg Ab ?_ ?_
     ·simp only [LY,seval]
     ·trivial
  ·have hw':w.toNat=64:=by
    have:=of_eq_false hw;rw [BitVec.lt_def] at this;have h2:=hI.1;have e:(64#64:BitVec 64).toNat=64:=rfl;dsimp only at h2;omega
   have e:=JQ hI hw';subst e;simp only [hw,LZ,seval];exact Ay.mkZ hx [] ⟨rfl,rfl,rfl⟩
theorem KU (ok:OkX M) (a b:BitVec 64):As M 230 [.int .i64 11,W a,W b] [] 0 (Q3 (W (F5 11 a b)) [] 0):=by
 refine Ac ok.k230 rfl fun x hx=>?_;generalize hF:F5 11 a b=F;refine eX ?_;simp only [QV,TO,LZ,seval];refine Au (σ:=BitVec 64 × BitVec 64) (ZL F) (fun s=>fr 81 [(0,.int .i64 11),(1,W a),(2,W b),(7,W s.2),(8,W s.1)]) (fun _=>[]) (fun _=>0) (fun s=>64 - s.1.toNat) (0#64,0#64) ?_ ?_ ?_
 ·refine ⟨by decide,fun j=>?_⟩;show (0#64).getLsbD j=(decide (j < 0) && F.getLsbD j)
  simp
 ·refine Av.fr [] [] hx Bg Ab ?_ ?_
  ·simp only [LY,seval]
  ·trivial
 ·rintro ⟨w,o⟩ hI;refine eX ?_;rcases Classical.propComplete (w < 64#64) with hw | hw
  ·have hw':w.toNat < 64:=Wh;rcases Classical.propComplete (a < 8#64) with h1 | h1
   ·have h1':=of_eq_true h1;rw [BitVec.lt_def] at h1';have h1':a.toNat < 8:=h1';have hm:(8#64 * a).toNat=8 * a.toNat:=by rw [BitVec.toNat_mul];show 8 * a.toNat % 2 ^ 64=_;omega
    have h56:(56#64 - 8#64 * a).toNat=if a.toNat=7 then 0 else 56 - 8 * a.toNat:=by
     rw [BitVec.toNat_sub,hm];show (2 ^ 64 - 8 * a.toNat + 56) % 2 ^ 64=_;split <;> omega
    have hs:(8#64 * a + 7#64).toNat=8 * a.toNat + 7:=by rw [BitVec.toNat_add,hm];show (8 * a.toNat + 7) % 2 ^ 64=_;omega
    have hbit:F.getLsbD w.toNat=if 8 * a.toNat + 7 < w.toNat then b.getLsbD (8 * a.toNat + 7) else b.getLsbD w.toNat:=by
     rw [← hF,F5,if_pos rfl];by_cases h7:7#64≤a
     ·rw [if_pos h7];rw [BitVec.le_def] at h7;have h7:7≤a.toNat:=h7;rw [if_neg Aa]
     ·rw [if_neg h7];rw [BitVec.le_def] at h7;have h7:¬ 7≤a.toNat:=h7;rw [if_neg Aa] at h56;show ((b <<< (56#64 - 8#64 * a).toNat).sshiftRight (56#64 - 8#64 * a).toNat).getLsbD w.toNat=_;rw [h56,BitVec.getLsbD_sshiftRight,decide_eq_false (show ¬ 64≤w.toNat by omega)];by_cases hc:8 * a.toNat + 7 < w.toNat
      ·rw [if_neg Aa,if_pos hc,BitVec.msb_eq_getLsbD_last,BitVec.getLsbD_shiftLeft,decide_eq_false (show ¬ 64 - 1 < 56 - 8 * a.toNat by omega)];simp
       congr 1
       omega
      ·rw [if_pos Aa,if_neg hc,BitVec.getLsbD_shiftLeft,decide_eq_false (show ¬ 56 - 8 * a.toNat + w.toNat < 56 - 8 * a.toNat by omega),decide_eq_true (show 56 - 8 * a.toNat + w.toNat < 64 by omega)];simp
    rcases Classical.propComplete (8#64 * a + 7#64 < w) with h2 | h2
    ·have h2':=of_eq_true h2;rw [BitVec.lt_def,hs] at h2';have g1:(8#64 * a + 7#64 < 64#64)=True:=eq_true zq6;have hg:F.getLsbD w.toNat=b.getLsbD (8#64 * a + 7#64).toNat:=by rw [hbit,if_pos h2',hs]
     cases hb:b.getLsbD ((8#64 * a + 7#64).toNat)
     ·have hf:F.getLsbD w.toNat=false:=GC;simp only [hw,La,HB,h1,h2,g1,hb,seval];refine ⟨(w + 1#64,o),EI hI hw' hf,C4 hw',?_⟩;refine Av.fr [] [] hx Bg Ab ?_ ?_
      ·simp only [LY,seval]
      ·trivial
     ·have hf:F.getLsbD w.toNat=true:=GC;simp only [hw,La,HB,h1,h2,g1,hb,seval];refine ⟨(w + 1#64,o ||| 1#64 <<< w.toNat),FM hI hw' hf,C4 hw',?_⟩;refine Av.fr [] [] hx Bg Ab ?_ ?_
      ·simp only [LY,seval]
      ·trivial
    ·have h2':=of_eq_false h2;rw [BitVec.lt_def,hs] at h2';have hg:F.getLsbD w.toNat=b.getLsbD w.toNat:=by rw [hbit,if_neg h2']
     cases hb:b.getLsbD (w.toNat)
     ·have hf:F.getLsbD w.toNat=false:=GC;simp only [hw,La,HB,h1,h2,hb,seval];refine ⟨(w + 1#64,o),EI hI hw' hf,C4 hw',?_⟩;refine Av.fr [] [] hx Bg Ab ?_ ?_
      ·simp only [LY,seval]
      ·trivial
     ·have hf:F.getLsbD w.toNat=true:=GC;simp only [hw,La,HB,h1,h2,hb,seval];refine ⟨(w + 1#64,o ||| 1#64 <<< w.toNat),FM hI hw' hf,C4 hw',?_⟩;refine Av.fr [] [] hx Bg Ab ?_ ?_
      ·simp only [LY,seval]
      ·trivial
   ·have h1':=of_eq_false h1;rw [BitVec.lt_def] at h1';have h1':¬ a.toNat < 8:=h1';have hg:F.getLsbD w.toNat=b.getLsbD w.toNat:=by
     rw [← hF,F5,if_pos rfl,if_pos (by rw [BitVec.le_def];show 7≤_;omega)]
    cases hb:b.getLsbD (w.toNat)
    ·have hf:F.getLsbD w.toNat=false:=GC;simp only [hw,La,h1,hb,seval];refine ⟨(w + 1#64,o),EI hI hw' hf,C4 hw',?_⟩;refine Av.fr [] [] hx Bg Ab ?_ ?_
     ·simp only [LY,seval]
     ·trivial
    ·have hf:F.getLsbD w.toNat=true:=GC;simp only [hw,La,h1,hb,seval];refine ⟨(w + 1#64,o ||| 1#64 <<< w.toNat),FM hI hw' hf,C4 hw',?_⟩;refine Av.fr [] [] hx Bg Ab ?_ ?_
     ·simp only [LY,seval]
     ·trivial
  ·have hw':w.toNat=64:=by
    have:=of_eq_false hw;rw [BitVec.lt_def] at this;have h2:=hI.1;have e:(64#64:BitVec 64).toNat=64:=rfl;dsimp only at h2;omega
   have e:=JQ hI hw';subst e;simp only [hw,LZ,seval];exact Ay.mkZ hx [] ⟨rfl,rfl,rfl⟩
end Mv
namespace Mv
open Go
variable {M:Seat}
def KH (a:BitVec 64) (n:Nat):BitVec 64:=BitVec.ofNat 64 (a.toNat ^ n)
theorem MR (a:BitVec 64) (m n:Nat):KH a m * KH a n=KH a (m + n):=by
 apply BitVec.eq_of_toNat_eq;rw [KH,KH,KH,BitVec.toNat_mul,BitVec.toNat_ofNat,BitVec.toNat_ofNat,BitVec.toNat_ofNat,← Nat.mul_mod,Nat.pow_add]
theorem Sy (a:BitVec 64):KH a 1=a:=by
 apply BitVec.eq_of_toNat_eq;rw [KH,BitVec.toNat_ofNat,Nat.pow_one,Nat.mod_eq_of_lt a.isLt]
theorem Ail (a:BitVec 64) (n:Nat):KH (a * a) n=KH a (2 * n):=by
 apply BitVec.eq_of_toNat_eq;rw [KH,KH,BitVec.toNat_ofNat,BitVec.toNat_ofNat,BitVec.toNat_mul,← Nat.pow_mod,Nat.two_mul,Nat.pow_add,Nat.mul_pow]
theorem X6:∀ (k:Nat) (a b p:BitVec 64),b.toNat < 2 ^ k→Zg k a b p=p * KH a b.toNat
 | 0, a, b, p, h => by
   have h0:b.toNat=0:=by have:b.toNat < 1:=h;omega
   rw [Zg,h0,KH,Nat.pow_zero,BitVec.mul_one]
 | k + 1, a, b, p, h => by
   rw [Zg];split
   ·rename_i h0;rw [h0];show p=p * KH a 0;rw [KH,Nat.pow_zero,BitVec.mul_one]
   ·have hs:(b >>> 1).toNat=b.toNat / 2:=by rw [BitVec.toNat_ushiftRight,Nat.shiftRight_eq_div_pow]
    rw [X6 k _ _ _ (by rw [hs];rw [Nat.pow_succ] at h;omega),Ail,hs];have e1:(b &&& 1#64).toNat=b.toNat % 2:=by rw [BitVec.toNat_and,show (1#64:BitVec 64).toNat=1 from rfl,Nat.and_one_is_mod]
    split
    ·rename_i h1;rw [h1] at e1;have e1:1=b.toNat % 2:=e1;rw [BitVec.mul_assoc]
     congr 1
     have:a=KH a 1:=(Sy a).symm;conv=>lhs;lhs;rw [this]
     rw [MR]
     congr 1;omega
    ·rename_i h1;have:b.toNat % 2 ≠ 1:=fun h=>h1 (BitVec.eq_of_toNat_eq (by rw [e1,h];rfl))
     congr 2;omega
theorem Qb (ok:OkX M) (a b c:BitVec 64):As M 90 [.int .i64 10,W a,W b,W c] [] 0 (Q3 (AP (W (Zg 64 a b 1#64)) (.int .i64 0)) [] 0):=by
 rw [X6 64 a b 1#64 b.isLt,BitVec.one_mul];generalize hF:KH a b.toNat=F;refine Ac ok.k90 rfl fun x hx=>?_;refine eX ?_;simp only [ZJ,c90,LZ,seval];refine Au (σ:=Nat × BitVec 64) (fun s=>s.1≤64∧s.2=KH a (b.toNat / 2 ^ s.1)) (fun s=>fr 162 [(1,W a),(2,W b),(16,W s.2),(17,.int .i64 ((s.1:Int) - 1))]) (fun _=>[]) (fun _=>0) (fun s=>s.1) (64,1#64) ?_ ?_ ?_
 ·refine ⟨Nat.le_refl _,?_⟩;show 1#64=_;rw [Nat.div_eq_of_lt b.isLt,KH,Nat.pow_zero]
 ·refine Av.fr [] [] hx Bg Ab ?_ ?_
  ·simp only [LY,seval]
  ·trivial
 ·rintro ⟨k,p⟩ ⟨hk,hp⟩;dsimp only at hk hp;refine eX ?_;cases k with
  | zero =>
    have hz:(((0:Nat):Int) - 1) = -1:=rfl;rw [Nat.pow_zero,Nat.div_one] at hp;have e1:p=F:=by rw [hp,hF]
    subst e1;simp only [hz,LZ,seval];have zz:=@b7;exact DD hx [] ⟨rfl,rfl,rfl⟩
  | succ k =>
    have hz:(((k + 1:Nat):Int) - 1)=k:=Aa;have g0:(0≤(k:Int))=True:=eq_true Aa;have w1:IntKind.i64.wrap ((k:Int) - 1)=(k:Int) - 1:=AR Aa;have w3:=HM k Aa;have hb:=Anl b k;have hd:b.toNat / 2 ^ (k + 1)=b.toNat / 2 ^ k / 2:=by rw [Nat.pow_succ,Nat.div_div_eq_div_mul]
    have hbb:b.getLsbD k=decide (b.toNat / 2 ^ k % 2=1):=by
     rw [BitVec.getLsbD,Nat.testBit,Nat.shiftRight_eq_div_pow,Nat.one_and_eq_mod_two];rcases Nat.mod_two_eq_zero_or_one (b.toNat / 2 ^ k) with h | h <;> rw [h] <;> rfl
    have hpp:p * p=KH a (b.toNat / 2 ^ k / 2 + b.toNat / 2 ^ k / 2):=by rw [hp,hd,MR]
    by_cases h1:b.toNat / 2 ^ k % 2=1
    ·rw [decide_eq_true h1] at hbb;have hs:p * p * a=KH a (b.toNat / 2 ^ k):=by
      rw [hpp];conv=>lhs;rhs;rw [← Sy a]
      rw [MR];congr 1;omega
     simp only [hz,g0,w1,w3,hb,hbb,LZ,seval];refine ⟨(k,p * p * a),(show k≤64 by omega),hs,Nat.lt_succ_self k,?_⟩;refine Av.fr [] [] hx Bg Ab ?_ ?_
     ·simp only [LY,seval]
     ·trivial
    ·rw [decide_eq_false h1] at hbb;have hs:p * p=KH a (b.toNat / 2 ^ k):=by rw [hpp];congr 1;omega
     simp only [hz,g0,w1,w3,hb,hbb,LZ,seval];refine ⟨(k,p * p),(show k≤64 by omega),hs,Nat.lt_succ_self k,?_⟩;refine Av.fr [] [] hx Bg Ab ?_ ?_
     ·simp only [LY,seval]
     ·trivial
theorem Xj (a b:BitVec 64):(a ^^^ 9223372036854775808#64 < b ^^^ 9223372036854775808#64)=(a.toInt < b.toInt):=by
 have e:∀ a:BitVec 64,(a ^^^ 9223372036854775808#64).toNat=(a.toInt + 9223372036854775808).toNat:=by
  intro a;have h1:(a ^^^ 9223372036854775808#64).toNat=a.toNat ^^^ 2 ^ 63:=by rw [BitVec.toNat_xor];rfl
  have d1:(a.toNat ^^^ 2 ^ 63) / 2 ^ 63=a.toNat / 2 ^ 63 ^^^ 1:=by rw [Nat.xor_div_two_pow]
  have d2:(a.toNat ^^^ 2 ^ 63) % 2 ^ 63=a.toNat % 2 ^ 63:=by rw [Nat.xor_mod_two_pow,Nat.mod_self,Nat.xor_zero]
  have:=a.isLt;rw [h1,BitVec.toInt_eq_toNat_cond];by_cases h:a.toNat / 2 ^ 63=0
  ·rw [h] at d1;have d1:(a.toNat ^^^ 2 ^ 63) / 2 ^ 63=1:=d1;split <;> omega
  ·have h:a.toNat / 2 ^ 63=1:=Aa;rw [h] at d1;have d1:(a.toNat ^^^ 2 ^ 63) / 2 ^ 63=0:=d1;split <;> omega
 have k1:=BitVec.toInt_lt (x:=a);have k2:=BitVec.le_toInt a;have k3:=BitVec.toInt_lt (x:=b);have k4:=BitVec.le_toInt b;have e63:(2:Int) ^ (64 - 1)=9223372036854775808:=Ab;rw [e63] at k1 k2 k3 k4;rw [BitVec.lt_def,e,e];apply propext;omega
theorem Oi (hi lo c:BitVec 64) (n:Nat) (h:E6 hi lo=n):rsR hi lo c=BitVec.ofNat 64 (n % c.toNat):=by rw [rsR,h]
theorem Xo (a b:BitVec 64):E6 (TA a b) (a * b)=a.toNat * b.toNat:=by
 rw [E6,MM,BitVec.toNat_mul];have:=Nat.div_add_mod (a.toNat * b.toNat) 18446744073709551616;have e2:(2:Nat) ^ 64=18446744073709551616:=Ab;rw [e2];omega
theorem Xx (a b:BitVec 64):E6 (V4 (decide (a + b < a))) (a + b)=a.toNat + b.toNat:=by
 have h1:=a.isLt;have h2:=b.isLt;rw [E6,BitVec.toNat_add];by_cases h:a + b < a
 ·rw [decide_eq_true h];rw [BitVec.lt_def,BitVec.toNat_add] at h;show 1 * 18446744073709551616 + _=_;omega
 ·rw [decide_eq_false h];rw [BitVec.lt_def,BitVec.toNat_add] at h;show 0 * 18446744073709551616 + _=_;omega
theorem We (ok:OkX M) (a b c:BitVec 64):As M 90 [.int .i64 8,W a,W b,W c] [] 0 (Q3 (AP (W (Dn 8 a b c)) (.int .i64 0)) [] 0):=by
 refine Ac ok.k90 rfl fun x hx=>?_;by_cases hb:c=0#64
 ·subst hb;refine eX ?_;simp only [ZJ,c90,LZ,seval];have zz:=BK @b7 @Dn.eq_1;exact DD hx [] ⟨rfl,rfl,rfl⟩
 ·have z0:(c=0#64)=False:=eq_false hb;have r1:=DJ ok (V4 (decide (a + b < a))) (a + b) c (Mw c hb);rw [Oi _ _ _ _ (Xx a b)] at r1;generalize hF:Dn 8 a b c=F;simp only [Dn,seval,Dh,or_true,true_or,or_self,or_false,z0] at hF;rw [hF] at r1;refine eX ?_;simp only [ZJ,c90,z0,LZ,seval];refine Ap (I0 ok a b) ?_;simp only [EM,seval];refine Ap (Pq ok _) ?_;try (simp only [LZ,seval])
  refine Ap (r1) ?_;simp only [EM,seval];have zz:=@b7;exact DD hx [] ⟨rfl,rfl,rfl⟩
theorem VG (ok:OkX M) (a b c:BitVec 64):As M 90 [.int .i64 9,W a,W b,W c] [] 0 (Q3 (AP (W (Dn 9 a b c)) (.int .i64 0)) [] 0):=by
 refine Ac ok.k90 rfl fun x hx=>?_;by_cases hb:c=0#64
 ·subst hb;refine eX ?_;simp only [ZJ,c90,LZ,seval];have zz:=BK @b7 @Dn.eq_1;exact DD hx [] ⟨rfl,rfl,rfl⟩
 ·have z0:(c=0#64)=False:=eq_false hb;have r1:=DJ ok (TA a b) (a * b) c (Mw c hb);rw [Oi _ _ _ _ (Xo a b)] at r1;generalize hF:Dn 9 a b c=F;simp only [Dn,seval,Dh,or_true,true_or,or_self,or_false,z0] at hF;rw [hF] at r1;refine eX ?_;simp only [ZJ,c90,z0,LZ,seval];refine Ap (I0 ok a b) ?_;simp only [EM,seval]
  skip
  try (simp only [LZ,seval])
  refine Ap (r1) ?_;simp only [EM,seval];have zz:=@b7;exact DD hx [] ⟨rfl,rfl,rfl⟩
theorem Ns (ok:OkX M) (op:Nat) (h1:1≤op) (h2:op≤25) (a b c:BitVec 64):As M 90 [.int .i64 op,W a,W b,W c] [] 0 (Q3 (AP (W (Dn op a b c)) (.int .i64 0)) [] 0):=by
 have c1:((1:Nat):Int)=1:=rfl;have h4:=WP ok a b;have h5:=Yr ok a b;have h6:=WR ok a b;have h7:=YD ok a b;have h11:=KU ok a b;have h12:=Lp ok a b;have h13:=Lc ok a b;have h14:=KV ok a b;have h15:=Lq ok a b;have hf:=fun t=>Pq ok t;have hop:op=8 ∨ op=9 ∨ op=10 ∨ op=1 ∨ op=2 ∨ op=22 ∨ op=23 ∨ op=24 ∨ op=25 ∨ op=16 ∨ op=17 ∨ op=18 ∨ op=19 ∨ op=20 ∨ op=21 ∨ op=3 ∨ op=4 ∨ op=5 ∨ op=6 ∨ op=7 ∨ op=11 ∨ op=12 ∨ op=13 ∨ op=14 ∨ op=15:=Aa;rcases hop with rfl | rfl | rfl | rfl | rfl | rfl | rfl | rfl | rfl | rfl | rfl | rfl | rfl | rfl | rfl | rfl | rfl | rfl | rfl | rfl | rfl | rfl | rfl | rfl | rfl
 ·exact We ok a b c
 ·exact VG ok a b c
 ·exact Qb ok a b c
 all_goals
  generalize hF:Dn _ a b c=F;simp only [Dn,seval,Dh,or_true,true_or,or_self,or_false] at hF
 iterate 6
  focus
   refine Ac ok.k90 rfl fun x hx=>?_;refine eX ?_;simp only [ZJ,c90,c1,Lbp,seval];subst hF;have zz:=@b7;exact DD hx [] ⟨rfl,rfl,rfl⟩
 iterate 6
  focus
   refine Ac ok.k90 rfl fun x hx=>?_;refine eX ?_;simp only [ZJ,c90,Lbp,Xj,seval];refine Ap (hf _) ?_;simp only [LZ,seval];subst hF;have zz:=@b7;exact DD hx [] ⟨rfl,rfl,rfl⟩
 all_goals
  refine Ac ok.k90 rfl fun x hx=>?_;refine eX ?_;simp only [ZJ,c90,Lbp,seval];first
   | (refine Ap (I0 ok a b) ?_)
   | (refine Ap (h4) ?_)
   | (refine Ap (h5) ?_)
   | (refine Ap (h6) ?_)
   | (refine Ap (h7) ?_)
   | (refine Ap (h11) ?_)
   | (refine Ap (h12) ?_)
   | (refine Ap (h13) ?_)
   | (refine Ap (h14) ?_)
   | (refine Ap (h15) ?_)
  simp only [EM,seval];subst hF;have zz:=@b7;exact DD hx [] ⟨rfl,rfl,rfl⟩
end Mv
