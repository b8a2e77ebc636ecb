/- A part. -/
import Derived.Test.YtfljfijnobocoaaDoorHJ
set_option linter.all false
set_option maxRecDepth 20000
set_option maxHeartbeats 8000000
namespace Mv
open Go
variable {M:Seat} {W:Nat→BitVec 64} {fz ent k n len:Nat} {S U:Cd}
theorem SK (ok:OkV M) (I:ImW W fz ent k n len S U) (hn:n≤3) (hl:len≤8192) (f g:Nat→BitVec 64) (A:Nat) (hA:A + 3 < 8192) (hf:∀ i,i < len→f i=W i) (h14:g 14=BitVec.ofNat 64 A):∀ j,j≤n →
 ∃ g',Rn M (DY f g (ent + 1)) (DY f g' (ent + 1 + j)) j∧g' 14=BitVec.ofNat 64 A∧g' 12=g 12∧∀ i,i < j→g' (1 + i)=f (A + i)
 | 0,_=>⟨g,Rn.refl ..,h14,rfl,fun i h=>by omega⟩
 | j + 1, h => by
   have el:=I.el;obtain ⟨g',r,a14,a12,ai⟩:=SK ok I hn hl f g A hA hf h14 j Aa;have d:=I.fl j Aa;have D:Dec (f (ent + 1 + j)) 27 (1 + j) 14 0 0 (j:Nat):=by
    rw [hf _ Aa,d];exact Ef 27 (1 + j) 14 0 0 _ Aa Aa Aa Aa Aa Aa
   have s:=Ms (g:=g') ok Aa D (A + j) Aa (by rw [a14,Du]);refine ⟨_,r.trans (Rn.step rfl s (Rn.refl ..)),(Co Aa).trans a14,(Co Aa).trans a12,fun i hi=>?_⟩;by_cases hij:i=j
   ·subst hij;exact GG ..
   ·rw [Co Aa];exact ai i Aa
theorem Anq (ok:OkV M) (okP:OkP M) (I:ImW W fz ent k n len S U) (hk:1≤k∧k≤25) (hn:n=1 ∨ n=2 ∨ n=3) (hin:∀ a b c a' b' c',(0 < n→a=a')→(1 < n→b=b')→(2 < n→c=c')→Dn k a b c=Dn k a' b' c')
 (B:Nat) (hB:len≤B) (htop:B + fz + 4≤8192):Cx M W len B fz ent (Dn k):=by
 have el:=I.el;refine ⟨hB,htop,by omega,fun f g q hf h14 h12 h15 hq=>?_⟩;have mk:∀ (f:Nat→BitVec 64),(∀ i,i < len→f i=W i)→∀ i (op d a b c:Nat) (n:Int),i < len→W i=Bn op d a b c n→op < 64→d < 16→a < 16→b < 16→c < 16→(-2147483648≤n∧n < 2147483648)→Dec (f i) op d a b c n:=fun f hf i op d a b c n hi hw ho hd ha hb hc hn=>by
  rw [hf _ hi,hw];exact Ef op d a b c n ho hd ha hb hc hn
 have s0:=Lt (g:=g) ok Aa (mk f hf ent 28 0 14 15 0 _ Aa I.f0 Aa Aa Aa Aa Aa Aa) (B + fz + 3) Aa (by rw [h14,Du]);generalize hf1:Df f (B + fz + 3) (g 15)=f1 at s0;have k1:∀ i,i < B + fz + 3→f1 i=f i:=fun i hi=>by rw [← hf1,Co Aa]
 have e1:f1 (B + fz + 3)=BitVec.ofNat 64 q:=by rw [← hf1,GG,h15]
 have o1:∀ i,i < len→f1 i=W i:=fun i hi=>(k1 i Aa).trans (hf i hi);obtain ⟨g1,r1,a14,a12,ai⟩:=SK ok I Aa Aa f1 g (B + fz) Aa o1 h14 n (Nat.le_refl _);have s2:=M2 (g:=g1) ok okP Aa (mk f1 o1 (ent + 1 + n) k 0 1 2 3 0 Aa I.fo Aa Aa Aa Aa Aa Aa) hk.1 hk.2;generalize hg2:Df g1 0 (Dn k (g1 1) (g1 2) (g1 3))=g2 at s2;rw [show ent + 1 + n + 1=ent + 2 + n by omega] at s2;have s3:=YR (g:=g2) ok Aa (mk f1 o1 (ent + 2 + n) 29 0 0 0 0 _ Aa I.fj Aa Aa Aa Aa Aa Aa) Aa;rw [show ent + n + 4=ent + 4 + n by omega] at s3;have b14:g2 14=BitVec.ofNat 64 (B + fz):=by rw [← hg2,Co Aa,a14]
 have b12:g2 12=0#64:=by rw [← hg2,Co Aa,a12,h12]
 have b0:g2 0=Dn k (f (B + fz)) (f (B + fz + 1)) (f (B + fz + 2)):=by
  rw [← hg2,GG];exact hin _ _ _ _ _ _ (fun h=>(ai 0 h).trans (k1 _ Aa)) (fun h=>(ai 1 h).trans (k1 _ Aa)) (fun h=>(ai 2 h).trans (k1 _ Aa))
 have s4:=Ms (g:=g2) ok Aa (mk f1 o1 (ent + 4 + n) 27 15 14 0 0 _ Aa I.fd Aa Aa Aa Aa Aa Aa) (B + fz + 3) Aa (by rw [b14,Du]);rw [e1] at s4;generalize hg3:Df g2 15 (BitVec.ofNat 64 q)=g3 at s4;rw [show ent + 4 + n + 1=ent + 5 + n by omega] at s4;have c15:g3 15=BitVec.ofNat 64 q:=by rw [← hg3,GG]
 have s5:=Ang (g:=g3) ok Aa (mk f1 o1 (ent + 5 + n) 33 0 15 0 0 _ Aa I.fr Aa Aa Aa Aa Aa Aa) hq c15;refine ⟨f1,g3,_,?_,(Rn.step rfl s0 r1).trans (Rn.step rfl s2 (Rn.step rfl s3 (Rn.step rfl s4 (Rn.step rfl s5 (Rn.refl ..))))),?_,?_,?_,fun i hi=>k1 i Aa⟩
 ·omega
 ·rw [← hg3,Co Aa,b14]
 ·rw [← hg3,Co Aa,b12]
 ·rw [← hg3,Co Aa,b0]
theorem YX (ok:OkV M) (okP:OkP M) (k n:Nat) (x y:Ex) (u v:BitVec 64) (a b c:Nat) (hk:1≤k∧k≤25) (hn:n=1 ∨ n=2 ∨ n=3)
 (hin:∀ a b c a' b' c',(0 < n→a=a')→(1 < n→b=b')→(2 < n→c=c')→Dn k a b c=Dn k a' b' c')
 (hx:Sx (Dn k) 7 x u a) (hy:Sx (Dn k) 7 y v b) (hlx:Jl x=false) (hly:Jl y=false) (hRE:RE (pS k n x y) 0 8 (mX x y) c) (hc:c≤100) (base:Int) (hbase:base=((Bj (pS k n x y) base).words.length + 512:Nat)) (F:Nat→BitVec 64) (hF:∀ i,i < (Bj (pS k n x y) base).words.length→F i=(Bj (pS k n x y) base).words.getD i 0#64) :
 (∃ m c',c'≤a + b + 10∧Rn M (DY F (fun _=>0#64) 0) m c'∧m.hl=true∧m.xt=u - v):=by
 have hst:=(Ce _ _ _ _ _ hRE).2 0 (m0 (pS k n x y) base);have hm0:(m0 (pS k n x y) base).temps=0:=rfl;have hmm:(m0 (pS k n x y) base).most=0:=rfl;have hml:(m0 (pS k n x y) base).words.length=2:=rfl;have h1:=hst.most;have h2:=hst.words;rw [hm0,hmm] at h1;rw [hml] at h2;have eU:=Afw x y (m0 (pS k n x y) base) hlx hly;obtain ⟨Lx,hLx⟩:=He 7 x u a hx;obtain ⟨Ly,hLy⟩:=He 7 y v b hy;have hbad:(AO 8 (mX x y) 0 (m0 (pS k n x y) base)).bad=[]:=by
  rw [eU];show (AO 7 y 2 (CI (AO 7 x 1 (m0 (pS k n x y) base)) 1)).bad=[]
  rw [(hLy _ _).2];show (AO 7 x 1 (m0 (pS k n x y) base)).bad=[]
  rw [(hLx _ _).2];rfl
 obtain ⟨I,-⟩:=I9 k n x y base hk hn ⟨_,_,hst⟩ hbad Aa Aa;have el:=I.el;have eeq:=I.eeq;have w0:WFc (m0 (pS k n x y) base):=(FH (FnI.zero (pS k n x y) base fun _=>0).wf 0).ei ..;have hl0:Bi (m0 (pS k n x y) base).P (m0 (pS k n x y) base).fn=0:=rfl;have hb0:(m0 (pS k n x y) base).words=[Bn (26:Nat) 14 0 0 0 (base - 512),Bn (28:Nat) 0 14 15 0 ((0:Nat):Int)]:=rfl;have hs0:(m0 (pS k n x y) base).steps=[]:=rfl;have hc0:(m0 (pS k n x y) base).calls=[]:=rfl;generalize hlen:(Bj (pS k n x y) base).words.length=len at *
 generalize hW:(fun i=>(Bj (pS k n x y) base).words.getD i 0#64)=W at *
 have hF:∀ i,i < len→F i=W i:=fun i hi=>by rw [← hW];exact hF i hi
 have cx:=Anq ok okP I hk hn hin len (Nat.le_refl _) Aa;have uw:=I.wf;have ag:=I.ag;have ujm:=I.jm;have uhl:=I.hl;generalize hfz:1 + (AO 8 (mX x y) 0 (m0 (pS k n x y) base)).most=fz at *
 generalize m0 (pS k n x y) base=S at *
 generalize hent:(AO 8 (mX x y) 0 S).words.length + 3=ent at *
 clear I hst;clear eeq;rw [eU] at ag uw ujm uhl hent h1 h2 hfz;have E1:=Ou ok okP cx (en:=fun j=>[1,ent].getD j 0) rfl 7 x u a hx 1 S Aa w0 Aa hl0;obtain ⟨m1,n1,t1⟩:=E1.sta;have x1:=E1.ext;have r1:=E1.run;have w1:=t1.wf w0;have l1:Bi (AO 7 x 1 S).P (AO 7 x 1 S).fn=0:=by rw [t1.P,t1.fn];exact hl0
 generalize AO 7 x 1 S=X1 at *
 have sv:=Sta.sv X1 1;have xv:=Ext.sv X1 1;have wv:=sv.wf w1;have lv:Bi (CI X1 1).P (CI X1 1).fn=0:=by rw [sv.P,sv.fn];exact l1
 have tv:(CI X1 1).temps=X1.temps + 1:=rfl;have mv:(CI X1 1).most=max X1.most (X1.temps + 1):=rfl;have R1:=fun (f g:Nat→BitVec 64) (hA:Ag W fz (fun j=>[1,ent].getD j 0) (CI X1 1)) hz hC (hI:Iv W len len f g)=>N1 (f:=f) (g:=g) (r:=1) ok cx Aa hA w1 l1 hz hC hI;have E2:=Ou ok okP cx (en:=fun j=>[1,ent].getD j 0) rfl 7 y v b hy 2 (CI X1 1) Aa wv Aa lv;generalize CI X1 1=X2 at *
 obtain ⟨m2,n2,t2⟩:=E2.sta;have x2:=E2.ext;have r2:=E2.run;have w2:=t2.wf wv;have l2:Bi (AO 7 y 2 X2).P (AO 7 y 2 X2).fn=0:=by rw [t2.P,t2.fn];exact lv
 generalize AO 7 y 2 X2=X3 at *
 have hp:Eb X3 S.temps=((1:Nat):Int):=by unfold Eb;rw [l2,hm0];rfl
 rw [hp] at ag uw ujm uhl hent h1 h2 hfz;have x4:=Ext.ei X3 27 1 14 0 0 ((1:Nat):Int);have w4:WFc (A5 X3 27 1 14 0 0 ((1:Nat):Int)):=w2.ei ..;have w5:WFc (Bp (A5 X3 27 1 14 0 0 ((1:Nat):Int)) S.temps):=⟨w4.bl,w4.sl,w4.kll,w4.cl,w4.ck,w4.bk,w4.sk,w4.kk,w4.cs⟩
 have a5:=ag.mono (Ext.ei ..) w5;have a4:Ag W fz (fun j=>[1,ent].getD j 0) (A5 X3 27 1 14 0 0 ((1:Nat):Int)):=⟨a5.wd,a5.sw,a5.cw⟩
 have a3:=a4.mono x4 w2;have a2:=a3.mono x2 wv;have a1:=a2.mono xv w1;have a0:=a1.mono x1 w0;have lU:=Aj (Bp (A5 X3 27 1 14 0 0 ((1:Nat):Int)) S.temps) 2 0 1 2 3 0;have l4:=Aj X3 27 1 14 0 0 ((1:Nat):Int);have l5:(Bp (A5 X3 27 1 14 0 0 ((1:Nat):Int)) S.temps).words.length=X3.words.length + 1:=Aj ..;have mUq:(A5 (Bp (A5 X3 27 1 14 0 0 ((1:Nat):Int)) S.temps) 2 0 1 2 3 0).most=X3.most:=rfl;have g1:=x1.len;have g2:=xv.len;have g3:=x2.len;have p1:=x1.most;have p2:=xv.most;have p3:=x2.most;have W0:W 0=Bn (26:Nat) 14 0 0 0 (len:Nat):=by
  rw [a0.wd 0 Aa (by rw [hs0];simp) (by rw [hc0];simp),hb0,show base - 512=(len:Nat) by omega];rfl
 have W1:W 1=Bn (28:Nat) 0 14 15 0 ((0:Nat):Int):=by
  rw [a0.wd 1 Aa (by rw [hs0];simp) (by rw [hc0];simp),hb0];rfl
 have s0:=RI (g:=fun _=>0#64) (f:=F) (p:=0) ok Aa (by rw [hF 0 Aa,W0];exact Ef 26 14 0 0 0 (len:Nat) Aa Aa Aa Aa Aa Aa);rw [BitVec.ofInt_natCast] at s0;generalize hg1:Df (fun _=>0#64) 14 (BitVec.ofNat 64 len)=ga at s0;have a14:ga 14=BitVec.ofNat 64 len:=by rw [← hg1,GG]
 have a12:ga 12=0#64:=by rw [← hg1,Co Aa]
 have s1:=Lt (g:=ga) (f:=F) (p:=0 + 1) ok Aa (by rw [hF _ Aa,W1];exact Ef 28 0 14 15 0 ((0:Nat):Int) Aa Aa Aa Aa Aa Aa) (len + 0) Aa (by rw [a14,Du]);generalize hf1:Df F (len + 0) (ga 15)=f1 at s1;have o1:∀ i,i < len→f1 i=W i:=fun i hi=>by rw [← hf1,Co Aa];exact hF i hi
 rw [show 0 + 1 + 1=S.words.length by omega] at s1;obtain ⟨f2,gb,c1,hc1,q1,i1,v1,k1⟩:=r1 a1 Aa Aa f1 ga ⟨a14,a12,o1⟩;obtain ⟨q2,i2⟩:=R1 f2 gb a2 Aa Aa i1;obtain ⟨f3,gc,c3,hc3,q3,i3,v3,k3⟩:=r2 a3 Aa Aa _ gb i2;have e3:f3 (len + 1)=u:=by
  have tx:X1.temps=0:=by rw [t1.temps];omega
  rw [k3 _ Aa,tx,Nat.add_zero,GG,v1]
 have s4:=eLd (g:=gc) (f:=f3) ok a4 w2 Aa Aa i3.co Aa Aa Aa (len + 1) Aa (by rw [i3.g14,Du]);rw [e3] at s4;generalize hgd:Df gc 1 u=gd at s4;have b1:gd 1=u:=by rw [← hgd,GG]
 have b2:gd 2=v:=by rw [← hgd,Co Aa,v3]
 have s5:=eAp (g:=gd) (f:=f3) (op:=2) ok okP ag w5 Aa Aa i3.co Aa Aa Aa Aa Aa Aa;generalize hge:Df gd 0 (Dn 2 (gd 1) (gd 2) (gd 3))=ge at s5;have c0:ge 0=u - v:=by rw [← hge,GG,b1,b2];rfl
 generalize A5 (Bp (A5 X3 27 1 14 0 0 ((1:Nat):Int)) S.temps) 2 0 1 2 3 0=U at *
 have s6:=YR (g:=ge) (f:=f3) (p:=U.words.length) ok Aa (by rw [i3.co _ Aa,ujm];exact Ef 29 0 0 0 0 _ Aa Aa Aa Aa Aa Aa) Aa;have s7:=Ab7 (g:=ge) (f:=f3) (p:=U.words.length + 2) ok Aa (by rw [i3.co _ Aa,uhl];exact Ef 0 0 0 0 0 0 Aa Aa Aa Aa Aa Aa);refine ⟨_,_,?_,(((Rn.step rfl s0 (Rn.step rfl s1 q1)).trans q2).trans q3).trans (Rn.step rfl s4 (Rn.step rfl s5 (Rn.step rfl s6 (Rn.step rfl s7 (Rn.refl ..))))),rfl,c0⟩;omega
end Mv
namespace Mv
open Go
def Ao6:LC:=(sr [bX 4 1] (sr [mt 12 0,nc 13 12,fa 14 10 13,lb 15 1 14,mt 6 15] (.seq (sr [fa 16 2 4,lb 17 1 16,
  lN 18 0 17,
  mI 19 0] (.block 0 (.loop (sr [ak 20 .lss 19 18] (.seq (Fy 20 0) (.seq (.block 1 (sr [ia 21 3 17 19,la 22 3 21,A1 8 (.alloc (.st (.cons zI (.cons zU (.cons .slice .nil))))),sb 3 8 22] (sr [mt 23 0,la 24 3 8,kl 25 516 [(.t 23),(.t 24),(cI 0)]] (sr [mt 26 0,mt 27 0,mt 28 0,nc 29 28,fa 30 10 29,lb 31 1 30,kl 32 540 [(.t 27),(.t 31)],kl 33 405 [(.t 26),(cI 28),(cI 0),(cI 14),(cI 0),(cI 0),(.t 32)]] (sr [mt 34 0,nc 35 34,fa 36 10 35,lb 37 1 36,aI 38 .add 37 1,nc 39 34,fa 40 10 39,sb 1 40 38]
 (.regd [⟨0,0,mt 41 0⟩,⟨1,0,mt 42 0⟩,⟨2,2,nc 43 42⟩,⟨3,6,fa 44 11 43⟩,⟨4,14,lb 45 1 44⟩,⟨5,0,mt 46 0⟩,⟨6,32,nc 47 46⟩,⟨7,96,fa 48 10 47⟩,⟨8,224,lb 49 1 48⟩,⟨9,510,A1 50 (.mm true (.t 45) (.t 49))⟩,⟨10,1023,nc 51 41⟩,⟨11,2047,fa 52 11 51⟩,⟨12,4095,sb 1 52 50⟩])))))) (.reg [aI 53 .add 19 1,mt 19 53]))))))) (sr [mt 54 0,mt 55 6,nc 56 54,fa 57 10 56,sb 1 57 55] (sr [mt 58 0,kl 59 405 [(.t 58),(cI 26),(cI 11),(cI 0),(cI 0),(cI 0),(cI 0)],mt 9 59] (sr [mt 60 0,kl 61 405 [(.t 60),(cI 1),(cI 10),(cI 14),(cI 11),(cI 0),(cI 0)]] (.seq (sr [fa 62 2 4,lb 63 1 62,
  lN 64 0 63,
  mI 65 0] (.block 2 (.loop (sr [ak 66 .lss 65 64] (.seq (Fy 66 2) (.seq (.block 3 (sr [mt 67 65,mt 10 67] (sr [mt 68 0,mt 69 0,mt 70 6,mt 71 10,ak 72 .add 70 71,kl 73 540 [(.t 69),(.t 72)],kl 74 405 [(.t 68),(cI 27),(cI 0),(cI 14),(cI 0),(cI 0),(.t 73)]] (.reg [mt 75 0,mt 76 10,kl 77 405 [(.t 75),(cI 28),(cI 0),(cI 10),(cI 0),(cI 0),(.t 76)]])))) (.reg [aI 78 .add 65 1,mt 65 78]))))))) (sr [mt 79 0,kl 80 405 [(.t 79),(cI 1),(cI 14),(cI 10),(cI 12),(cI 0),(cI 0)]] (.seq (.regd [⟨4,0,mt 85 0⟩,⟨5,1,kl 86 405 [(.t 85),(cI 32),(cI 15),(cI 0),(cI 0),(cI 0),(cI 0)]⟩,⟨0,0,mt 81 0⟩,⟨1,4,nc 82 81⟩,⟨2,12,fa 83 6 82⟩,⟨3,28,lb 84 1 83⟩,⟨6,0,fa 87 1 4⟩,⟨7,64,lb 88 1 87⟩,⟨8,192,Ea 89 .i64 88⟩,⟨9,511,A0 (.mupd .int (.t 84) (.t 86) (.t 89))⟩]) (sr [mt 90 0,kl 91 405 [(.t 90),(cI 26),(cI 10),(cI 0),(cI 0),(cI 0),(cI 0)],mt 11 91] (sr [mt 92 0,kl 93 405 [(.t 92),(cI 2),(cI 14),(cI 14),(cI 10),(cI 0),(cI 0)]] (.seq (sr [mt 94 2,aI 95 .neq 94 0] (.cond (.t 95) (.reg [mt 96 0,mt 97 2,kl 98 405 [(.t 96),(cI 1),(.t 97),(cI 0),(cI 12),(cI 0),(cI 0)]]) .skip)) (.reg [mt 99 0,mt 100 0,nc 101 100,fa 102 8 101,lb 103 1 102,mt 104 9,mt 105 11,A1 106 (.bsl 1 2 zI [(.i 1 0,1,(.t 104)),(.i 1 1,1,(.t 105))]),
  aP 107 1 8 103 106,nc 108 99,fa 109 8 108,sb 1 109 107])))))))))))))
def Aio:LF:=⟨Ao6,3,0,110,[]⟩
structure OkCo (M:Seat):Prop where
 c:OkCk M
 i:OkI M
 k405:Ar M 405 PA=true
 k407:Ar M 407 Ad4=true
 k408:Ar M 408 Abv=true
 k459:Ar M 459 XN=true
 k493:Ar M 493 Kp=true
 k516:Ar M 516 Ii=true
 k517:Ar M 517 Af6=true
 k518:Ar M 518 Aid=true
 k537:Ar M 537 UK=true
 k538:Ar M 538 Aio=true
 k539:Ar M 539 Zh=true
 k540:Ar M 540 Agu=true
theorem Sk (S:Cd) (w:BitVec 64):(IW S w).words.length=S.words.length + 1:=by simp [IW]
theorem Aq {M:Seat} (ok:OkCo M) (S:Cd) (hm:S.words.length < 1000000) (op:Int) (d a b c:Nat) (n:Int) (hd:d < 16) (ha:a < 16) (hb:b < 16) (hc:c < 16) (h1:0≤op∧op≤35) (h2:-2147483648≤n∧n < 2147483648) :
 As M 405 [.ptr 0 [],.int .i64 op,.int .i64 d,.int .i64 a,.int .i64 b,.int .i64 c,.int .i64 n] [(0,Bz 1 2 3 5 6 7 S),(1,EN S.words)] 8
  (Q3 (.int .i64 S.words.length) [(0,Bz 8 2 3 5 6 7 (A5 S op d a b c n)),(8,EN (A5 S op d a b c n).words)] 9):=by
 have hC:=Gr ok.i op d a b c n hd ha hb hc h1 h2;have hl:=Sk S (Bn op d a b c n);have hw:(IW S (Bn op d a b c n)).words=S.words ++ [Bn op d a b c n]:=rfl;have w0:IntKind.i64.wrap (((S.words.length + 1:Nat):Int) - 1)=(S.words.length:Int):=B7;unfold A5;generalize Bn op d a b c n=w at *
 simp only [Bz,hl,EN,hw];refine Ac ok.k405 rfl fun x hx=>?_;refine eX ?_;simp only [PA,YS,Dk,Dl,Dj,DG,D0,DB,LZ,seval];refine Ap (hC) ?_;simp only [EM,w0,Dk,Dl,Dj,DG,D0,DB,seval];refine ⟨by omega,?_⟩;refine Ay.mkO hx [0,1,2,3,4,5,6,7,328] [] [0,8] _ _ _ (by simp only [AA,seval]) Ab (by (simp only [Dz,seval])) (by simp only [DK,seval]) ?_ ⟨rfl,rfl,rfl⟩;simp only [IW,Lc4,Ak,LH,Ai,LY,seval];intro i _;rw [VJ]
 repeat' split
 all_goals rfl
variable {M:Seat}
theorem FX (ok:OkCo M) (S:Cd) (at' n:Nat) (h:at' < S.words.length) (hn:n < 1000000) (hm:S.words.length < 1000000) :
 As M 407 [.ptr 0 [],.int .i64 at',.int .i64 n] [(0,Bz 1 2 3 5 6 7 S),(1,EN S.words)] 8
  (Q3 (.tup .fnil) [(0,Bz 1 2 3 5 6 7 (Ei S at' n)),(1,EN (Ei S at' n).words)] 8):=by
 have d0:(0≤(at':Int))=True:=eq_true Aa;have d1:((at':Int) < (S.words.length:Int))=True:=eq_true Aa;have wu:IntKind.u32.wrap (n:Int)=n:=by
  have e:IntKind.u32.wrap (n:Int)=(n:Int) % 4294967296:=Q0;rw [e];omega
 have hl:(Ei S at' n).words.length=S.words.length:=by simp [Ei]
 have hw:(Ei S at' n).words=S.words.set at' (S.words.getD at' 0#64 >>> 32 <<< 32 ||| BitVec.ofInt 64 n):=by simp only [Ei,O4,RY]
 simp only [Bz,EN,hl];rw [hw];refine Ac ok.k407 rfl fun x hx=>?_;refine eX ?_;simp only [Ad4,Ajk,Dk,Dl,Dj,DG,D0,DB,d0,d1,wu,LZ,seval];refine ⟨h,h,h,?_⟩;refine Ay.mkO hx [0,1,2,3,4,5,6,7] [] [0,1] _ _ _ (by simp only [AA,seval]) Ab (by (simp only [Dz,seval])) (by simp only [DK,seval]) ?_ ⟨rfl,rfl,rfl⟩;simp only [Ei,List.length_set,Ak,LH,Ai,LY,seval];intro i _;rw [Af2 _ _ _ h]
 repeat' split
 all_goals rfl
theorem GJ (ok:OkCo M) (y:Ex):As M 539 [AE y] [] 0 (Q3 (.bool (Jl y)) [] 0):=by
 obtain ⟨op,n,as⟩:=y;refine Ac ok.k539 rfl fun x hx=>?_;simp only [Jl,Ex.op,AE];by_cases h6:op=26
 ·refine eX ?_;simp only [Zh,Aam,eq_true h6,AU,AY,AZ,LZ,seval];exact Ay.mkZ hx [] ⟨rfl,rfl,rfl⟩
 ·by_cases h7:op=27
  ·refine eX ?_;simp only [Zh,Aam,eq_false h6,eq_true h7,AU,AY,AZ,LZ,seval];exact Ay.mkZ hx [] ⟨rfl,rfl,rfl⟩
  ·refine eX ?_;simp only [Zh,Aam,eq_false h6,eq_false h7,AU,AY,AZ,LZ,seval];exact Ay.mkZ hx [] ⟨rfl,rfl,rfl⟩
theorem Eh (ok:OkCo M) (S:Cd) (t:Nat) (hi:S.fn < S.P.length) (hl:0≤Bi S.P S.fn∧Bi S.P S.fn≤1000) (ht:t < 1000000) :
 As M 540 [.ptr 0 [],.int .i64 t] [(0,Bz 1 2 3 5 6 7 S)] 8 (Q3 (.int .i64 (Eb S t)) [(0,Bz 1 2 3 5 6 7 S)] 8):=by
 have hne:S.P ≠ []:=by intro h;rw [h] at hi;exact absurd hi BF
 have hf:=Ft hi;have d0:(0≤(S.fn:Int))=True:=eq_true Aa;have d1:((S.fn:Int) < (S.P.length:Int))=True:=eq_true Aa;have w1:IntKind.i64.wrap (Bi S.P S.fn + 1)=Bi S.P S.fn + 1:=Pt;have w2:IntKind.i64.wrap (Bi S.P S.fn + 1 + t)=Bi S.P S.fn + 1 + t:=Pt;unfold Eb;simp only [Bz];have hL:=BD S.P hne;refine Ac ok.k540 rfl fun x hx=>?_;refine eX ?_;simp only [Agu,Amr,Dk,Dl,Dj,DG,D0,DB,d0,d1,hf,hL,w1,w2,LZ,seval];have hsl:∀ H m z,Aw H m z (.lst 3 S.P.length (BW S.P)) (.lst 3 S.P.length (BW S.P))=True:=fun H m z=>by rw [← hL];exact eq_true (En H m z S.P)
 refine Ay.mkO hx [0,1,2,3,4,5,6,7] [] [0] _ _ _ (by simp only [hsl,AA,seval]) Ab (by (simp only [Dz,hsl,LH,Ai,seval])) (by ((try simp only [DK,hsl,LH,Ai,seval]);first | done | exact True.intro | (intros;rfl))) (by ((try simp only [hsl,LH,Ai,LY,seval]);first | done | exact True.intro | (intros;rfl))) ⟨rfl,rfl,rfl⟩
theorem OF (ok:OkCo M) (S:Cd) (hm:S.words.length < 900000) (reg:Nat) (hr:reg < 16) (v:BitVec 64) :
 As M 537 [.ptr 0 [],.int .i64 reg,W v] [(0,Bz 1 2 3 5 6 7 S),(1,EN S.words)] 8
  (Q3 (.tup .fnil) [(0,Bz 8 2 3 5 6 7 (H4 S reg v)),(8,EN (H4 S reg v).words)] 9):=by
 have hb:=MC v;have hb':=MC (v >>> 32);have e2:(BitVec.setWidth 32 v).toInt=Bl v:=rfl;have e2':(BitVec.setWidth 32 (v >>> 32)).toInt=Bl (v >>> 32):=rfl;have e3:IntKind.i64.wrap (Bl v)=Bl v:=Pt;have e3':IntKind.i64.wrap (Bl (v >>> 32))=Bl (v >>> 32):=Pt;by_cases he:v.toInt=Bl v
 ·have hE:=Aq ok S Aa 26 reg 0 0 0 v.toInt hr Ab Ab Ab Ab Aa;have hcn:H4 S reg v=A5 S 26 reg 0 0 0 v.toInt:=by rw [H4,if_pos he]
  rw [hcn];simp only [Bz,Ed,Int.natCast_zero] at hE ⊢;refine Ac ok.k537 rfl fun x hx=>?_;refine eX ?_;simp only [UK,Afb,e2,e3,eq_true he,LZ,seval];refine Ah [0,1,2,3,4,5,6,7] [0,1] [0,1] (hE) (by simp only [Ak,Ae,AA,seval]) Ab (by ((try simp only [Ak,Ae,LH,Ai,LY,seval]);first | done | exact True.intro | rfl)) (by ((try simp only [Ak,Ae,LH,Ai,LY,seval]);first | done | exact True.intro | rfl)) ?_;simp only [Ad,Ae,LH,Ai,AW,seval];refine Ay.mkO hx [0,1,2,3,4,5,6,7,168] [] [0,8] _ _ _ (by simp only [Ak,Ae,AA,seval]) Ab (by (simp only [Dz,Ak,Ae,LH,Ai,seval])) (by ((try simp only [DK,Ak,Ae,LH,Ai,seval]);first | done | exact True.intro | (intros;rfl))) (by ((try simp only [Ak,Ae,LH,Ai,LY,seval]);first | done | exact True.intro | (intros;rfl))) ⟨rfl,rfl,rfl⟩
 ·have hcn:H4 S reg v=A5 (A5 (A5 (A5 (A5 (A5 (A5 S 26 reg 0 0 0 (Bl (v >>> 32))) 26 11 0 0 0 32) 13 reg 11 reg 0 0) 26 10 0 0 0 (Bl v)) 13 10 11 10 0 0) 14 10 11 10 0 0) 23 reg reg 10 0 0:=by rw [H4,if_neg he]
  rw [hcn];have h1:=Aq ok S Aa 26 reg 0 0 0 (Bl (v >>> 32)) hr Ab Ab Ab Ab Aa;generalize hS1:A5 S 26 reg 0 0 0 (Bl (v >>> 32))=S1 at *
  have q1:S1.words.length=S.words.length + 1:=by rw [← hS1,Aj]
  have h2:=Aq ok S1 Aa 26 11 0 0 0 32 Ab Ab Ab Ab Ab Ab;generalize hS2:A5 S1 26 11 0 0 0 32=S2 at *
  have q2:S2.words.length=S1.words.length + 1:=by rw [← hS2,Aj]
  have h3:=Aq ok S2 Aa 13 reg 11 reg 0 0 hr Ab hr Ab Ab Ab;generalize hS3:A5 S2 13 reg 11 reg 0 0=S3 at *
  have q3:S3.words.length=S2.words.length + 1:=by rw [← hS3,Aj]
  have h4:=Aq ok S3 Aa 26 10 0 0 0 (Bl v) Ab Ab Ab Ab Ab Aa;generalize hS4:A5 S3 26 10 0 0 0 (Bl v)=S4 at *
  have q4:S4.words.length=S3.words.length + 1:=by rw [← hS4,Aj]
  have h5:=Aq ok S4 Aa 13 10 11 10 0 0 Ab Ab Ab Ab Ab Ab;generalize hS5:A5 S4 13 10 11 10 0 0=S5 at *
  have q5:S5.words.length=S4.words.length + 1:=by rw [← hS5,Aj]
  have h6:=Aq ok S5 Aa 14 10 11 10 0 0 Ab Ab Ab Ab Ab Ab;generalize hS6:A5 S5 14 10 11 10 0 0=S6 at *
  have q6:S6.words.length=S5.words.length + 1:=by rw [← hS6,Aj]
  have h7:=Aq ok S6 Aa 23 reg reg 10 0 0 hr hr Ab Ab Ab Ab;clear hS1 hS2 hS3 hS4 hS5 hS6;simp only [Bz,Int.natCast_zero] at h1 h2 h3 h4 h5 h6 h7 ⊢;refine Ac ok.k537 rfl fun x hx=>?_;refine eX ?_;simp only [UK,Afb,e2,e3,e2',e3',eq_false he,LZ,seval];refine Ah [0,1,2,3,4,5,6,7] [0,1] [0,1] (h1) (by simp only [Ak,Ae,AA,seval]) Ab (by ((try simp only [Ak,Ae,LH,Ai,LY,seval]);first | done | exact True.intro | rfl)) (by ((try simp only [Ak,Ae,LH,Ai,LY,seval]);first | done | exact True.intro | rfl)) ?_;simp only [Ad,Ae,LH,Ai,AW,seval];refine Ah [0,200,2,3,4,5,6,7] [0,200] [0,1] (h2) (by simp only [Ak,Ae,AA,seval]) Ab (by ((try simp only [Ak,Ae,LH,Ai,LY,seval]);first | done | exact True.intro | rfl)) (by ((try simp only [Ak,Ae,LH,Ai,LY,seval]);first | done | exact True.intro | rfl)) ?_;simp only [Ad,Ae,LH,Ai,AW,seval];refine Ah [0,232,2,3,4,5,6,7] [0,232] [0,1] (h3) (by simp only [Ak,Ae,AA,seval]) Ab (by ((try simp only [Ak,Ae,LH,Ai,LY,seval]);first | done | exact True.intro | rfl)) (by ((try simp only [Ak,Ae,LH,Ai,LY,seval]);first | done | exact True.intro | rfl)) ?_;simp only [e2,e3,Ad,Ae,LH,Ai,AW,seval];refine Ah [0,296,2,3,4,5,6,7] [0,296] [0,1] (h4) (by simp only [Ak,Ae,AA,seval]) Ab (by ((try simp only [Ak,Ae,LH,Ai,LY,seval]);first | done | exact True.intro | rfl)) (by ((try simp only [Ak,Ae,LH,Ai,LY,seval]);first | done | exact True.intro | rfl)) ?_;simp only [Ad,Ae,LH,Ai,AW,seval];refine Ah [0,376,2,3,4,5,6,7] [0,376] [0,1] (h5) (by simp only [Ak,Ae,AA,seval]) Ab (by ((try simp only [Ak,Ae,LH,Ai,LY,seval]);first | done | exact True.intro | rfl)) (by ((try simp only [Ak,Ae,LH,Ai,LY,seval]);first | done | exact True.intro | rfl)) ?_;simp only [Ad,Ae,LH,Ai,AW,seval];refine Ah [0,408,2,3,4,5,6,7] [0,408] [0,1] (h6) (by simp only [Ak,Ae,AA,seval]) Ab (by ((try simp only [Ak,Ae,LH,Ai,LY,seval]);first | done | exact True.intro | rfl)) (by ((try simp only [Ak,Ae,LH,Ai,LY,seval]);first | done | exact True.intro | rfl)) ?_;simp only [Ad,Ae,LH,Ai,AW,seval];refine Ah [0,440,2,3,4,5,6,7] [0,440] [0,1] (h7) (by simp only [Ak,Ae,AA,seval]) Ab (by ((try simp only [Ak,Ae,LH,Ai,LY,seval]);first | done | exact True.intro | rfl)) (by ((try simp only [Ak,Ae,LH,Ai,LY,seval]);first | done | exact True.intro | rfl)) ?_;simp only [Ad,Ae,LH,Ai,AW,seval];refine Ay.mkO hx [0,1,2,3,4,5,6,7,504] [] [0,8] _ _ _ (by simp only [Ak,Ae,AA,seval]) Ab (by (simp only [Dz,Ak,Ae,LH,Ai,seval])) (by ((try simp only [DK,Ak,Ae,LH,Ai,seval]);first | done | exact True.intro | (intros;rfl))) (by ((try simp only [Ak,Ae,LH,Ai,LY,seval]);first | done | exact True.intro | (intros;rfl))) ⟨rfl,rfl,rfl⟩
theorem CC (ok:OkCo M) (S:Cd) (hm:S.words.length < 900000) (hb:S.bad.length < 900000) (reg:Nat) (hr:reg < 16) (n:Int) (hn:0≤n∧n < 100000) :
 As M 518 [.ptr 0 [],.int .i64 reg,.int .i64 n] ((0,Bz 1 2 3 5 6 7 S) :: (1,EN S.words) :: BR S.bad.length 5 (BO S.bad) []) 8
  (Q3 (.tup .fnil) [(0,Bz 8 2 3 9 6 7 (F4 S reg n)),(8,EN (F4 S reg n).words),(9,BO (F4 S reg n).bad)] 10):=by
 unfold F4;have h1:=Aq ok S Aa 26 10 0 0 0 n Ab Ab Ab Ab Ab Aa;have b1:(A5 S 26 10 0 0 0 n).bad=S.bad:=rfl;generalize hS1:A5 S 26 10 0 0 0 n=S1 at *
 have q1:S1.words.length=S.words.length + 1:=by rw [← hS1,Aj]
 have h2:=Aq ok S1 Aa 16 10 reg 10 0 0 Ab hr Ab Ab Ab Ab;have b2:(A5 S1 16 10 reg 10 0 0).bad=S1.bad:=rfl;generalize hS2:A5 S1 16 10 reg 10 0 0=S2 at *
 have bb:S2.bad=S.bad:=by rw [b2,b1]
 have q2:S2.words.length=S1.words.length + 1:=by rw [← hS2,Aj]
 have h3:=Aq ok S2 Aa 30 0 10 0 0 0 Ab Ab Ab Ab Ab Ab;clear hS1 hS2;have b3:(bd2 S2).bad=S2.bad ++ [S2.words.length]:=rfl;simp only [Bz,Int.natCast_zero,Ed,LBd,b3,bb,b1] at h1 h2 h3 ⊢;refine Ac ok.k518 rfl fun x hx=>?_;refine eX ?_;simp only [Aid,Am1,LZ,seval];refine Ah [0,1,2,3,4,5,6,7] [0,1] [0,1] (h1) (by simp only [Ak,Ae,AA,seval]) Ab (by ((try simp only [Ak,Ae,LH,Ai,LY,seval]);first | done | exact True.intro | rfl)) (by ((try simp only [Ak,Ae,LH,Ai,LY,seval]);first | done | exact True.intro | rfl)) ?_;simp only [Ad,Ae,LH,Ai,AW,seval];refine Ah [0,40,2,3,4,5,6,7] [0,40] [0,1] (h2) (by simp only [Ak,Ae,AA,seval]) Ab (by ((try simp only [Ak,Ae,LH,Ai,LY,seval]);first | done | exact True.intro | rfl)) (by ((try simp only [Ak,Ae,LH,Ai,LY,seval]);first | done | exact True.intro | rfl)) ?_;simp only [Ad,Ae,LH,Ai,AW,seval];refine Nb [0,88,2,3,4,5,6,7] [0,88] [0,1] (h3) (by simp only [Ak,Ae,AA,seval]) Ab (by ((try simp only [Ak,Ae,LH,Ai,LY,seval]);first | done | exact True.intro | rfl)) (by ((try simp only [Ak,Ae,LH,Ai,LY,seval]);first | done | exact True.intro | rfl)) ?_;simp only [Ad,Ae,LH,Ai,Xa,Cp,CM,AW,seval];refine ⟨by omega,?_⟩;refine Ay.mkO hx [0,1,2,3,4,5,6,7,312,408] [] [0,8,9] _ _ _ (by simp only [Ak,Ae,Ci,AA,seval]) Ab (by (simp only [Dz,Ak,Ae,Ci,LH,Ai,seval])) (by ((try simp only [DK,Ak,Ae,Ci,LH,Ai,seval]);first | done | exact True.intro | (intros;rfl))) (by ((try simp only [Ak,Ae,Ci,LH,Ai,LY,seval]);first | done | exact True.intro | (intros;rfl))) ⟨rfl,rfl,rfl⟩
end Mv
