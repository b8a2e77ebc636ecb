/- A part. -/
import Derived.Test.YtncipgmjhaiagaaGreatDoorGT
set_option linter.all false
namespace Mv
open Go
variable {M:Seat}
def LZ:=(aq9 (Apn @LG @LP @LN @V.ren.eq_1 @V.ren.eq_2 @V.ren.eq_3 @V.ren.eq_4 @V.ren.eq_5 @V.ren.eq_6 @V.ren.eq_7 @V.ren.eq_8 @V.ren.eq_9 @V.ren.eq_10 @V.ren.eq_11) (Apn @V.ren.eq_12 @V.ren.eq_13 @AQ.eq_1 @AQ.eq_2 @A4.eq_1 @A4.eq_2 @A8.eq_1 @A8.eq_2 @A8.eq_3 @A8.eq_4 @TZ.eq_1 @TZ.eq_2 @F2.eq_1 @F2.eq_2) (Apk @Mv.hx.eq_1 @Dq.eq_1 @Dq.eq_2 @bs.eq_1 @G3.eq_1 @G3.eq_2 @LK.isW.eq_1 @LK.isW.eq_2 @LK.isW.eq_3 @LK.isW.eq_4 @LK.isW.eq_5 @LK.isW.eq_6 @LK.isW.eq_7 @LK.isA.eq_1 @LK.isA.eq_2) (Apn @LK.isA.eq_3 @LK.isA.eq_4 @LK.isA.eq_5 @LK.isA.eq_6 @LK.isA.eq_7 @LK.isP.eq_1 @LK.isP.eq_2 @LK.isP.eq_3 @LK.isP.eq_4 @LK.isP.eq_5 @LK.isP.eq_6 @LK.isP.eq_7 @LK.isP.eq_8 @LK.isP.eq_9) (Apn @LK.isP.eq_10 @LK.isP.eq_11 @YQ.eq_1 @YQ.eq_2 @X.ev.eq_1 @X.ev.eq_2 @X.ev.eq_3 @X.ev.eq_4 @BY.eq_1 @BY.eq_2 @By.eq_1 @By.eq_2 @DQ.eq_1 @DQ.eq_2) (Apk @C8.eq_1 @C8.eq_2 @hget.eq_1 @hget.eq_2 @Ch.eq_1 @Ch.eq_2 @BO.eq_1 @BO.eq_2 @Ae.eq_1 @Ae.eq_2 @CJ.eq_1 @CJ.eq_2 @CJ.eq_3 @V.ok.eq_1 @V.ok.eq_2) (Apn @V.ok.eq_3 @V.ok.eq_4 @V.ok.eq_5 @V.get.eq_1 @V.get.eq_2 @V.get.eq_3 @V.get.eq_4 @V.get.eq_5 @V.set.eq_1 @V.set.eq_2 @V.set.eq_3 @V.set.eq_4 @V.fget.eq_1 @V.fget.eq_2) (Apn @V.fhas.eq_1 @V.fhas.eq_2 @V.fset.eq_1 @V.fset.eq_2 @H4.eq_1 @H4.eq_2 @H4.eq_3 @Z.v.eq_1 @Z.v.eq_2 @Z.v.eq_3 @Z.v.eq_4 @Z.v.eq_5 @Z.v.eq_6 @Z.v.eq_7) (Apk @Z.v.eq_8 @Z.v.eq_9 @Z.v.eq_10 @Z.v.eq_11 @Z.v.eq_12 @Z.sz.eq_1 @Z.sz.eq_2 @Z.sz.eq_3 @Z.sz.eq_4 @Z.sz.eq_5 @BX.eq_1 @BX.eq_2 @BX.eq_3 @forall_const.{0} @forall_const.{1}))
def Lbp:=(aq2 @Int.cast_ofNat_Int @LZ)
def Ga:=(aq2 @LZ @mach.eq_1)
def Fj:=(aq2 @LZ @Ba.eq_1)
def Cb:=(aq2 @LZ @Ao.eq_1)
def LY:=(aq5 (Apn @Dg.at_zero @FH @Qr @LT @LP @Lj.eq_1 @Lj.eq_2 @AV.eq_1 @AV.eq_2 @AV.eq_3 @Aw.eq_1 @Aw.eq_2 @Aw.eq_3 @Aw.eq_4) (Apn @Aw.eq_5 @Aw.eq_6 @Aw.eq_7 @Aw.eq_8 @Aw.eq_9 @Aw.eq_10 @Aw.eq_11 @Aw.eq_12 @Aw.eq_13 @Aw.eq_14 @Aw.eq_15 @Aw.eq_16 @Aw.eq_17 @Aw.eq_18) (Apn @Aw.eq_19 @Aw.eq_20 @Aw.eq_21 @Aw.eq_22 @Aw.eq_23 @Aw.eq_24 @Aw.eq_25 @Aw.eq_26 @Aw.eq_27 @Aw.eq_28 @Aw.eq_29 @Aw.eq_30 @Aw.eq_31 @Aw.eq_32) (Apn @Aw.eq_33 @Aw.eq_34 @Aw.eq_35 @Aw.eq_36 @Aw.eq_37 @Bk.eq_1 @Bk.eq_2 @hget.eq_1 @hget.eq_2 @Ae.eq_1 @Ae.eq_2 @V.ok.eq_1 @V.ok.eq_2 @V.ok.eq_3) (Apk @V.ok.eq_4 @V.ok.eq_5 @V.get.eq_1 @V.get.eq_2 @V.get.eq_3 @V.get.eq_4 @V.get.eq_5 @V.fget.eq_1 @V.fget.eq_2 @V.fhas.eq_1 @V.fhas.eq_2 @An5 @Ank @implies_true.{0} @implies_true.{1}))
def LX:=(aq2 (Apo @Ao.eq_1 @BD.eq_1 @Ak1.eq_1 @Ba.eq_1 @mach.eq_1 @AD.eq_1 @AD.eq_2 @AD.eq_3 @AD.eq_4 @AD.eq_5 @AD.eq_6 @AD.eq_7) (Apo @AD.eq_8 @AD.eq_9 @AD.eq_10 @BE.eq_1 @BE.eq_2 @ws.eq_1 @Ru @Af4 @Pv @and_self @implies_true.{0} @implies_true.{1}))
def LV:=(Apo @DS.eq_1 @DS.eq_2 @Gx.eq_1 @Gx.eq_2 @Ig.eq_1 @Ig.eq_2 @Ek.eq_1 @Ek.eq_2 @Ao.eq_1 @BD.eq_1 @dg.eq_1 @IY)
def Fk:=(aq2 @LV @LZ)
def IT:=(aq2 @LY @Fk)
def LM:=(aq2 (App @UU @UP @Xa @Abj @Ad4 @UK @Yl @Ah0 @Aen @Afg @Ad0 @UZ @WT) (Apn @Abn @Ace @Aa9 @WK @XS @Xr @Z0 @Aay @Acg @Uo @UN @Qu @Rt @Yr))
def Gw:=(aq2 @LM @Cb)
def BA:=(aq2 @LM @LZ)
def C6:=(aq6 @Dl @WL @WG @Acm @PQ @U2)
def PR:=(aq2 @C6 @Ao.eq_1)
def CF:=(aq2 @C6 @LY)
theorem Ah {f:Nat} {us us0:List V} {H:Hp} {n:Nat} {K:V→Hp→Prop} {v:V} (hr:Af M f us0 [] 0 (Q3 v [] 0)) (hK:K v H) (hus:AV H [] (ids H) us0 us:=by ((try simp only [LY,seval]) <;> exact q1)) (hv:v.ren (Bc [] n 0)=v:=by first | rfl | (simp only [LN,LP,V.ren,Ao,BD])) (hn:AD v:=by simp only [LX]):AS M f us H n K:=Di hr hus hv hn hK
theorem Gh {f:Nat} {us us0:List V} {H Hn:Hp} {n kn:Nat} {K:V→Hp→Prop} {v:V} (hr:Af M f us0 [] 0 (Q3 v Hn kn)) (hK:K (v.ren (A8 [] n kn)) (AQ (A8 [] n kn) Hn ++ H)) (hk:decide (kn≤16)=true:=by decide) (hus:AV H [] (ids H) us0 us:=by ((try simp only [LY,seval]) <;> exact q1)) (hv:AD v:=by simp only [LX]) (hn:BE Hn:=by simp only [LX]):AS M f us H n K:=NB hr hk hus hv hn hK
theorem Tc {f:Nat} {us us0:List V} {H H0 Hn:Hp} {n k kn:Nat} {K:V→Hp→Prop} {v:V} (m:List Nat) (hr:Af M f us0 H0 k (Q3 v Hn kn)) (hK:K (v.ren (A8 m n kn)) (AQ (A8 m n kn) Hn ++ A4 H m)) (hm:(decide m.Nodup && decide (m.length=k) && decide (k≤kn) && decide (kn≤k + 16))=true:=by decide) (hall:(m.all fun i=>Ae H i)=true:=by rfl) (hus:AV H m (BS H m) us0 us:=by ((try simp only [LY,seval]) <;> exact q1)) (hH:Bk H m (BS H m) H0:=by ((try simp only [LY,seval]) <;> exact q1)) (hv:AD v:=by simp only [LX]) (hn:BE Hn:=by simp only [LX]):AS M f us H n K:=Nd m hr hm hall hus hH hv hn hK
theorem BI {f:Nat} {us us0:List V} {H:Hp} {n:Nat} {K:V→Hp→Prop} {v:V} (hr:Af M f us0 [] 0 (Q3 v [] 0)) (hK:K v H) (hus:AV H [] (ids H) us0 us:=by ((try simp only [LY,seval]) <;> exact q1)) (hv:v.ren (Bc [] n 0)=v:=by first | rfl | (simp only [LN,LP,V.ren,Ao,BD])) (hn:AD v:=by simp only [LX]):Fp M f us H n K:=WQ hr hus hv hn hK
theorem Aek {f:Nat} {us us0:List V} {H H0 Hn:Hp} {n k kn:Nat} {K:V→Hp→Prop} {v:V} (m:List Nat) (hr:Af M f us0 H0 k (Q3 v Hn kn)) (hK:K (v.ren (A8 m n kn)) (AQ (A8 m n kn) Hn ++ A4 H m)) (hm:(decide m.Nodup && decide (m.length=k) && decide (k≤kn) && decide (kn≤k + 16))=true:=by decide) (hall:(m.all fun i=>Ae H i)=true:=by rfl) (hus:AV H m (BS H m) us0 us:=by ((try simp only [LY,seval]) <;> exact q1)) (hH:Bk H m (BS H m) H0:=by ((try simp only [LY,seval]) <;> exact q1)) (hv:AD v:=by simp only [LX]) (hn:BE Hn:=by simp only [LX]):Fp M f us H n K:=Vz m hr hm hall hus hH hv hn hK
theorem Aq.mkZ {x:Ctx} {rs:List RVr} {Q:V→Hp→Nat→Prop} {A:List V} {H:Hp} {N:Nat} {k:Nat} (hx:x.k=k) (m:List Nat) {v:V} {H':Hp} {N':Nat} (h4:Q v H' N') (hm:(decide m.Nodup && ([]:List Nat).all (fun i=>!m.contains i) && decide (m.length≤N') && decide (k≤N') && (List.range k).all (fun j=>m[j]? == some j))=true:=by decide) (h1:(DS A H rs).1:=by (simp only [Fk,seval])) (h2:Bd H m [] v (DS A H rs).2:=by ((try simp only [IT,seval]) <;> exact q2)) (h3:Bk H m [] H':=by ((try simp only [LY,seval]) <;> exact q2)):Aq M x rs Q A H N:=Aq.mk hx m [] v H' N' hm h1 h2 h3 h4
theorem cpK {f:Nat} {us us0:List V} {H:Hp} {n:Nat} {K:V→Hp→Prop} {v:V} (hr:Af M f us0 [] 0 (Q3 v [] 0)) (hus:AV H [] (ids H) us0 us) (hn:AD v) (hK:K v H) (hv:v.ren (Bc [] n 0)=v:=by first | rfl | (simp only [LN,LP,V.ren,Ao,BD])):AS M f us H n K:=Di hr hus hv hn hK
theorem cfK {f:Nat} {us us0:List V} {H Hn:Hp} {n kn:Nat} {K:V→Hp→Prop} {v:V} (hr:Af M f us0 [] 0 (Q3 v Hn kn)) (hus:AV H [] (ids H) us0 us) (hn:AD v∧BE Hn) (hK:K (v.ren (A8 [] n kn)) (AQ (A8 [] n kn) Hn ++ H)) (hk:decide (kn≤16)=true:=by decide):AS M f us H n K:=NB hr hk hus hn.1 hn.2 hK
theorem cmK {f:Nat} {us us0:List V} {H H0 Hn:Hp} {n k kn:Nat} {K:V→Hp→Prop} {v:V} (m:List Nat) (hr:Af M f us0 H0 k (Q3 v Hn kn)) (hs:AV H m (BS H m) us0 us∧Bk H m (BS H m) H0) (hn:AD v∧BE Hn) (hK:K (v.ren (A8 m n kn)) (AQ (A8 m n kn) Hn ++ A4 H m)) (hm:(decide m.Nodup && decide (m.length=k) && decide (k≤kn) && decide (kn≤k + 16))=true:=by decide) (hall:(m.all fun i=>Ae H i)=true:=by rfl):AS M f us H n K:=Nd m hr hm hall hs.1 hs.2 hn.1 hn.2 hK
theorem Xi {f:Nat} {us us0:List V} {H H0 Hn:Hp} {n k kn:Nat} {K:V→Hp→Prop} {v:V} (m m0:List Nat) (hr:Af M f us0 H0 k (Q3 v Hn kn)) (hs:AV H m (BS H m) us0 us∧Bk H m (BS H m) H0) (hn:AD v∧BE Hn) (hK:K (v.ren (A8 m n kn)) (AQ (A8 m n kn) Hn ++ A4 H m0)) (h0:((ids H0).all fun id=>match m[id]? with | some i=>m0.contains i | none=>true)=true:=by rfl) (h0m:(m0.all fun i=>m.contains i)=true:=by rfl) (hm:(decide m.Nodup && decide (m.length=k) && decide (k≤kn) && decide (kn≤k + 16))=true:=by decide) (hall:(m.all fun i=>Ae H i || Cv us i)=true:=by rfl) (hall0:(m0.all fun i=>Ae H i)=true:=by rfl):AS M f us H n K:=SZ m m0 hr h0 h0m hm hall hall0 hs.1 hs.2 hn.1 hn.2 hK
theorem cnK {f:Nat} {us us0:List V} {H H0 Hn:Hp} {n k kn:Nat} {K:V→Hp→Prop} {v:V} (m m0:List Nat) (hr:Af M f us0 H0 k (Q3 v Hn kn)) (hs:AV H m [] us0 us∧Bk H m [] H0) (hK:K (v.ren (A8 m n kn)) (AQ (A8 m n kn) Hn ++ A4 H m0)) (h0:((ids H0).all fun id=>match m[id]? with | some i=>m0.contains i | none=>true)=true:=by rfl) (h0m:(m0.all fun i=>m.contains i)=true:=by rfl) (hm:(decide m.Nodup && decide (m.length=k) && decide (k≤kn) && decide (kn≤k + 16))=true:=by decide) (hall:(m.all fun i=>Ae H i || (GJ m0 H i || Cv us i))=true:=by rfl) (hall0:(m0.all fun i=>Ae H i)=true:=by rfl):AS M f us H n K:=SR m m0 hr h0 h0m hm hall hall0 hs.1 hs.2 hK
theorem Y9 {f:Nat} {us us0:List V} {H:Hp} {n:Nat} {K:V→Hp→Prop} {v:V} (hr:Af M f us0 [] 0 (Q3 v [] 0)) (hus:AV H [] (ids H) us0 us) (hn:AD v) (hK:K v H) (hv:v.ren (Bc [] n 0)=v:=by first | rfl | (simp only [LN,LP,V.ren,Ao,BD])):Fp M f us H n K:=WQ hr hus hv hn hK
theorem ofK {f:Nat} {us us0:List V} {H Hn:Hp} {n kn:Nat} {K:V→Hp→Prop} {v:V} (hr:Af M f us0 [] 0 (Q3 v Hn kn)) (hus:AV H [] (ids H) us0 us) (hn:AD v∧BE Hn) (hK:K (v.ren (A8 [] n kn)) (AQ (A8 [] n kn) Hn ++ H)) (hk:decide (kn≤16)=true:=by decide):Fp M f us H n K:=Ae2 hr hk hus hn.1 hn.2 hK
theorem omK {f:Nat} {us us0:List V} {H H0 Hn:Hp} {n k kn:Nat} {K:V→Hp→Prop} {v:V} (m:List Nat) (hr:Af M f us0 H0 k (Q3 v Hn kn)) (hs:AV H m (BS H m) us0 us∧Bk H m (BS H m) H0) (hn:AD v∧BE Hn) (hK:K (v.ren (A8 m n kn)) (AQ (A8 m n kn) Hn ++ A4 H m)) (hm:(decide m.Nodup && decide (m.length=k) && decide (k≤kn) && decide (kn≤k + 16))=true:=by decide) (hall:(m.all fun i=>Ae H i)=true:=by rfl):Fp M f us H n K:=Vz m hr hm hall hs.1 hs.2 hn.1 hn.2 hK
theorem obK {f:Nat} {us us0:List V} {H H0 Hn:Hp} {n k kn:Nat} {K:V→Hp→Prop} {v:V} (m m0:List Nat) (hr:Af M f us0 H0 k (Q3 v Hn kn)) (hs:AV H m (BS H m) us0 us∧Bk H m (BS H m) H0) (hn:AD v∧BE Hn) (hK:K (v.ren (A8 m n kn)) (AQ (A8 m n kn) Hn ++ A4 H m0)) (h0:((ids H0).all fun id=>match m[id]? with | some i=>m0.contains i | none=>true)=true:=by rfl) (h0m:(m0.all fun i=>m.contains i)=true:=by rfl) (hm:(decide m.Nodup && decide (m.length=k) && decide (k≤kn) && decide (kn≤k + 16))=true:=by decide) (hall:(m.all fun i=>Ae H i || Cv us i)=true:=by rfl) (hall0:(m0.all fun i=>Ae H i)=true:=by rfl):Fp M f us H n K:=Aht m m0 hr h0 h0m hm hall hall0 hs.1 hs.2 hn.1 hn.2 hK
theorem onK {f:Nat} {us us0:List V} {H H0 Hn:Hp} {n k kn:Nat} {K:V→Hp→Prop} {v:V} (m m0:List Nat) (hr:Af M f us0 H0 k (Q3 v Hn kn)) (hs:AV H m [] us0 us∧Bk H m [] H0) (hK:K (v.ren (A8 m n kn)) (AQ (A8 m n kn) Hn ++ A4 H m0)) (h0:((ids H0).all fun id=>match m[id]? with | some i=>m0.contains i | none=>true)=true:=by rfl) (h0m:(m0.all fun i=>m.contains i)=true:=by rfl) (hm:(decide m.Nodup && decide (m.length=k) && decide (k≤kn) && decide (kn≤k + 16))=true:=by decide) (hall:(m.all fun i=>Ae H i || (GJ m0 H i || Cv us i))=true:=by rfl) (hall0:(m0.all fun i=>Ae H i)=true:=by rfl):Fp M f us H n K:=Adz m m0 hr h0 h0m hm hall hall0 hs.1 hs.2 hK
theorem oyK {f:Nat} {v:V} {us us0:List V} {H:Hp} {n:Nat} {C:V→Hp→Prop} {r:V} (hf:Rz M f) (hr:Af M f us0 [] 0 (fun r' H' k'=>r'=r∧H'=[]∧k'=0)) (hus:AV H [] (ids H) us0 (us ++ [v])) (hn:AD r) (hC:C r H) (hv:(v.solid && !v.isAgg)=true:=by rfl) (hv2:r.ren (Bc [] n 0)=r:=by first | rfl | (simp only [LN,LP,V.ren,Ao,BD])):Ud M (.fn f (.st 1 (.fcons 0 v .fnil))) us H n C:=Ali hf hv hr hus hv2 hn hC
theorem rqK {x:Ctx} {rs:List RVr} {Q:V→Hp→Nat→Prop} {A:List V} {H:Hp} {N:Nat} {k:Nat} (hx:x.k=k) (m:List Nat) {v:V} {H':Hp} {N':Nat} (h4:Q v H' N') (h1:(DS A H rs).1) (h2:Bd H m [] v (DS A H rs).2) (h3:Bk H m [] H') (hm:(decide m.Nodup && ([]:List Nat).all (fun i=>!m.contains i) && decide (m.length≤N') && decide (k≤N') && (List.range k).all (fun j=>m[j]? == some j))=true:=by decide):Aq M x rs Q A H N:=Aq.mk hx m [] v H' N' hm h1 h2 h3 h4
theorem CI {f:Nat} {us us0:List V} {H:Hp} {n:Nat} {K:V→Hp→Prop} {v:V} (hr:Af M f us0 [] 0 (Q3 v [] 0)) (hK:K v H) (hv:v.ren (Bc [] n 0)=v:=by first | rfl | (simp only [LN,LP,V.ren,Ao,BD])) (hus:AV H [] (ids H) us0 us:=by (try simp only [zz,LY,seval]) <;> first | exact True.intro | rfl) (hn:AD v:=by simp only [zz,LX]):AS M f us H n K:=cpK hr hus hn hK hv
theorem El {f:Nat} {us us0:List V} {H Hn:Hp} {n kn:Nat} {K:V→Hp→Prop} {v:V} (hr:Af M f us0 [] 0 (Q3 v Hn kn)) (hK:K (v.ren (A8 [] n kn)) (AQ (A8 [] n kn) Hn ++ H)) (hk:decide (kn≤16)=true:=by decide) (hus:AV H [] (ids H) us0 us:=by (try simp only [zz,LY,seval]) <;> first | exact True.intro | rfl) (hn:AD v∧BE Hn:=by simp only [zz,LX]):AS M f us H n K:=cfK hr hus hn hK hk
theorem Fl {f:Nat} {us us0:List V} {H H0 Hn:Hp} {n k kn:Nat} {K:V→Hp→Prop} {v:V} (m:List Nat) (hr:Af M f us0 H0 k (Q3 v Hn kn)) (hK:K (v.ren (A8 m n kn)) (AQ (A8 m n kn) Hn ++ A4 H m)) (hm:(decide m.Nodup && decide (m.length=k) && decide (k≤kn) && decide (kn≤k + 16))=true:=by decide) (hall:(m.all fun i=>Ae H i)=true:=by rfl) (hs:AV H m (BS H m) us0 us∧Bk H m (BS H m) H0:=by constructor <;> (try simp only [zz,LY,seval]) <;> first | exact True.intro | rfl) (hn:AD v∧BE Hn:=by simp only [zz,LX]):AS M f us H n K:=cmK m hr hs hn hK hm hall
theorem JO {f:Nat} {us us0:List V} {H H0 Hn:Hp} {n k kn:Nat} {K:V→Hp→Prop} {v:V} (m m0:List Nat) (hr:Af M f us0 H0 k (Q3 v Hn kn)) (hK:K (v.ren (A8 m n kn)) (AQ (A8 m n kn) Hn ++ A4 H m0)) (h0:((ids H0).all fun id=>match m[id]? with | some i=>m0.contains i | none=>true)=true:=by rfl) (h0m:(m0.all fun i=>m.contains i)=true:=by rfl) (hm:(decide m.Nodup && decide (m.length=k) && decide (k≤kn) && decide (kn≤k + 16))=true:=by decide) (hall:(m.all fun i=>Ae H i || Cv us i)=true:=by rfl) (hall0:(m0.all fun i=>Ae H i)=true:=by rfl) (hs:AV H m (BS H m) us0 us∧Bk H m (BS H m) H0:=by constructor <;> (try simp only [zz,LY,seval]) <;> first | exact True.intro | rfl) (hn:AD v∧BE Hn:=by simp only [zz,LX]):AS M f us H n K:=Xi m m0 hr hs hn hK h0 h0m hm hall hall0
theorem IJ {f:Nat} {us us0:List V} {H H0 Hn:Hp} {n k kn:Nat} {K:V→Hp→Prop} {v:V} (m m0:List Nat) (hr:Af M f us0 H0 k (Q3 v Hn kn)) (hK:K (v.ren (A8 m n kn)) (AQ (A8 m n kn) Hn ++ A4 H m0)) (h0:((ids H0).all fun id=>match m[id]? with | some i=>m0.contains i | none=>true)=true:=by rfl) (h0m:(m0.all fun i=>m.contains i)=true:=by rfl) (hm:(decide m.Nodup && decide (m.length=k) && decide (k≤kn) && decide (kn≤k + 16))=true:=by decide) (hall:(m.all fun i=>Ae H i || (GJ m0 H i || Cv us i))=true:=by rfl) (hall0:(m0.all fun i=>Ae H i)=true:=by rfl) (hs:AV H m [] us0 us∧Bk H m [] H0:=by constructor <;> (try simp only [zz,LY,seval]) <;> first | exact True.intro | rfl):AS M f us H n K:=cnK m m0 hr hs hK h0 h0m hm hall hall0
theorem Gy {f:Nat} {us us0:List V} {H:Hp} {n:Nat} {K:V→Hp→Prop} {v:V} (hr:Af M f us0 [] 0 (Q3 v [] 0)) (hK:K v H) (hv:v.ren (Bc [] n 0)=v:=by first | rfl | (simp only [LN,LP,V.ren,Ao,BD])) (hus:AV H [] (ids H) us0 us:=by (try simp only [zz,LY,seval]) <;> first | exact True.intro | rfl) (hn:AD v:=by simp only [zz,LX]):Fp M f us H n K:=Y9 hr hus hn hK hv
theorem IM {f:Nat} {us us0:List V} {H Hn:Hp} {n kn:Nat} {K:V→Hp→Prop} {v:V} (hr:Af M f us0 [] 0 (Q3 v Hn kn)) (hK:K (v.ren (A8 [] n kn)) (AQ (A8 [] n kn) Hn ++ H)) (hk:decide (kn≤16)=true:=by decide) (hus:AV H [] (ids H) us0 us:=by (try simp only [zz,LY,seval]) <;> first | exact True.intro | rfl) (hn:AD v∧BE Hn:=by simp only [zz,LX]):Fp M f us H n K:=ofK hr hus hn hK hk
theorem Pd {f:Nat} {us us0:List V} {H H0 Hn:Hp} {n k kn:Nat} {K:V→Hp→Prop} {v:V} (m:List Nat) (hr:Af M f us0 H0 k (Q3 v Hn kn)) (hK:K (v.ren (A8 m n kn)) (AQ (A8 m n kn) Hn ++ A4 H m)) (hm:(decide m.Nodup && decide (m.length=k) && decide (k≤kn) && decide (kn≤k + 16))=true:=by decide) (hall:(m.all fun i=>Ae H i)=true:=by rfl) (hs:AV H m (BS H m) us0 us∧Bk H m (BS H m) H0:=by constructor <;> (try simp only [zz,LY,seval]) <;> first | exact True.intro | rfl) (hn:AD v∧BE Hn:=by simp only [zz,LX]):Fp M f us H n K:=omK m hr hs hn hK hm hall
theorem obY {f:Nat} {us us0:List V} {H H0 Hn:Hp} {n k kn:Nat} {K:V→Hp→Prop} {v:V} (m m0:List Nat) (hr:Af M f us0 H0 k (Q3 v Hn kn)) (hK:K (v.ren (A8 m n kn)) (AQ (A8 m n kn) Hn ++ A4 H m0)) (h0:((ids H0).all fun id=>match m[id]? with | some i=>m0.contains i | none=>true)=true:=by rfl) (h0m:(m0.all fun i=>m.contains i)=true:=by rfl) (hm:(decide m.Nodup && decide (m.length=k) && decide (k≤kn) && decide (kn≤k + 16))=true:=by decide) (hall:(m.all fun i=>Ae H i || Cv us i)=true:=by rfl) (hall0:(m0.all fun i=>Ae H i)=true:=by rfl) (hs:AV H m (BS H m) us0 us∧Bk H m (BS H m) H0:=by constructor <;> (try simp only [zz,LY,seval]) <;> first | exact True.intro | rfl) (hn:AD v∧BE Hn:=by simp only [zz,LX]):Fp M f us H n K:=obK m m0 hr hs hn hK h0 h0m hm hall hall0
theorem onY {f:Nat} {us us0:List V} {H H0 Hn:Hp} {n k kn:Nat} {K:V→Hp→Prop} {v:V} (m m0:List Nat) (hr:Af M f us0 H0 k (Q3 v Hn kn)) (hK:K (v.ren (A8 m n kn)) (AQ (A8 m n kn) Hn ++ A4 H m0)) (h0:((ids H0).all fun id=>match m[id]? with | some i=>m0.contains i | none=>true)=true:=by rfl) (h0m:(m0.all fun i=>m.contains i)=true:=by rfl) (hm:(decide m.Nodup && decide (m.length=k) && decide (k≤kn) && decide (kn≤k + 16))=true:=by decide) (hall:(m.all fun i=>Ae H i || (GJ m0 H i || Cv us i))=true:=by rfl) (hall0:(m0.all fun i=>Ae H i)=true:=by rfl) (hs:AV H m [] us0 us∧Bk H m [] H0:=by constructor <;> (try simp only [zz,LY,seval]) <;> first | exact True.intro | rfl):Fp M f us H n K:=onK m m0 hr hs hK h0 h0m hm hall hall0
theorem Bg {x:Ctx} {rs:List RVr} {Q:V→Hp→Nat→Prop} {A:List V} {H:Hp} {N:Nat} {k:Nat} (hx:x.k=k) (m:List Nat) {v:V} {H':Hp} {N':Nat} (h4:Q v H' N') (h1:(DS A H rs).1:=by simp only [zz,Fk,seval]) (h2:Bd H m [] v (DS A H rs).2:=by (try simp only [zz,IT,seval]) <;> first | exact True.intro | (intros;rfl)) (h3:Bk H m [] H':=by (try simp only [zz,LY,seval]) <;> first | exact True.intro | (intros;rfl)) (hm:(decide m.Nodup && ([]:List Nat).all (fun i=>!m.contains i) && decide (m.length≤N') && decide (k≤N') && (List.range k).all (fun j=>m[j]? == some j))=true:=by decide):Aq M x rs Q A H N:=rqK hx m h4 h1 h2 h3 hm
theorem ID {x:Ctx} {rs:List RVr} {Q:V→Hp→Nat→Prop} {A:List V} {H:Hp} {N:Nat} {k:Nat} (hx:x.k=k) (m:List Nat) (v:V) (H':Hp) (N':Nat) (h3:Bk H m [] H') (hm:(decide m.Nodup && ([]:List Nat).all (fun i=>!m.contains i) && decide (m.length≤N') && decide (k≤N') && (List.range k).all (fun j=>m[j]? == some j))=true:=by decide) (h1:(DS A H rs).1:=by simp only [Fk,seval]) (h2:Bd H m [] v (DS A H rs).2:=by (try simp only [IT,seval]) <;> first | exact True.intro | (intros;rfl)) (h4:Q v H' N':=by exact ⟨rfl,rfl,rfl⟩):Aq M x rs Q A H N:=Aq.mk hx m [] v H' N' hm h1 h2 h3 h4
def Alm:LC:=(sr [A1 0 (.mv (.c .nils))] (sr [A1 3 (.mksl 32 32 (.ar 32 (.int .u8)) (cI 1) (cI 1)),mt 1 3] (.seq (sr [mI 2 0] (.block 0 (.loop (.seq (sr [mt 4 2,aI 5 .lss 4 16]
 (cXx 5 0)) (.seq (.block 1 (.regd [⟨1,0,mt 9 1⟩,⟨2,0,mt 10 2⟩,⟨3,3,ia 11 32 9 10⟩,⟨4,7,la 12 32 11⟩,⟨5,0,mt 13 1⟩,⟨6,0,mt 14 2⟩,⟨7,48,ia 15 32 13 14⟩,⟨8,112,la 16 32 15⟩,⟨9,255,kl 17 206 [(.t 12),(.t 16)]⟩,⟨0,0,mt 8 1⟩,⟨10,511,A1 18 (.bsl 32 1 (.ar 32 (.int .u8)) [(.i 32 0,32,(.t 17))])⟩,⟨11,2047,aP 19 32 32 8 18⟩,⟨12,4095,mt 1 19⟩])) (.reg [mt 6 2,aI 7 .add 6 1,mt 2 7])))))) (sr [mt 20 1,mt 0 20] .ret))))
def Afw:LF:=⟨Alm,0,0,21,[.tmp 0]⟩
def Ak3:LC:=(sr [bX 2 0,
 bX 3 1,
 aB 4 32] (sr [A1 6 (.bsl 1 0 (.int .u8) []),A1 7 (.slarr 32 1 (.t 2) none none),
  aP 8 1 1 6 7,mt 5 8] (sr [mt 9 5,A1 10 (.slarr 32 1 (.t 3) none none),
  aP 11 1 1 9 10,kl 12 311 [(.t 11)],sb 32 4 12] .ret)))
def Adx:LF:=⟨Ak3,2,0,13,[.cell 4 true 32]⟩
def Alx:LC:=(sr [aB 2 32] (sr [kl 11 413 [],kl 12 414 [],mt 3 11,mt 4 12] (sr [A1 13 (.bsl 1 0 (.int .u8) []),mt 14 0,
  aP 15 1 1 13 14,mt 5 15] (sr [mt 16 5,A1 17 (.bsl 1 1 (.int .u8) [(.i 1 0,1,(.c (.int .u8 1)))]),
  aP 18 1 1 16 17,mt 5 18] (.seq (.block 0 (.loop (.seq (sr [mt 19 5,
  lN 20 0 19,aI 21 .rem 20 136,aI 22 .neq 21 0]
 (cXx 22 0)) (.block 1 (.reg [mt 23 5,A1 24 (.bsl 1 1 (.int .u8) [(.i 1 0,1,(.c (.int .u8 0)))]),
  aP 25 1 1 23 24,mt 5 25]))))) (sr [mt 26 5,mt 27 5,
  lN 28 0 27,aI 29 .sub 28 1,ia 30 1 26 29,lb 31 1 30,A1 32 (.ari .xor (.t 31) (.c (.int .u8 128))),ia 33 1 26 29,sb 1 33 32] (sr [A1 6 (.alloc (.ar 25 (.int .u64)))] (.seq (sr [mI 7 0] (.block 2 (.loop (.seq (sr [mt 34 7,mt 35 5,
  lN 36 0 35,ak 37 .lss 34 36]
 (cXx 37 2)) (.seq (.block 3 (.seq (sr [mI 8 0] (.block 4 (.loop (.seq (sr [mt 40 8,aI 41 .lss 40 136]
 (cXx 41 4)) (.seq (.block 5 (.regd [⟨0,0,mt 44 8⟩,⟨1,1,aI 45 .quo 44 8⟩,⟨2,3,ib 46 25 1 6 45⟩,⟨3,7,lb 47 1 46⟩,⟨4,0,mt 48 5⟩,⟨5,0,mt 49 7⟩,⟨6,0,mt 50 8⟩,⟨7,96,ak 51 .add 49 50⟩,⟨8,240,ia 52 1 48 51⟩,⟨9,496,lb 53 1 52⟩,⟨10,1008,cVv 54 .u64 53⟩,⟨11,0,mt 55 8⟩,⟨12,2048,aI 56 .rem 55 8⟩,⟨13,6144,aJ 57 .mul 8 56⟩,⟨14,14336,cVv 58 .u64 57⟩,⟨15,32752,ak 59 .shl 54 58⟩,⟨16,65535,ak 60 .xor 47 59⟩,⟨17,131071,ib 61 25 1 6 45⟩,⟨18,262143,sb 1 61 60⟩])) (.reg [mt 42 8,aI 43 .add 42 1,mt 8 43])))))) (.reg [la 62 25 6,mt 63 3,mt 64 4,kl 65 415 [(.t 62),(.t 63),(.t 64)],sb 25 6 65]))) (.reg [mt 38 7,aI 39 .add 38 136,mt 7 39])))))) (sr [aB 9 32] (.seq (sr [mI 10 0] (.block 6 (.loop (.seq (sr [mt 66 10,aI 67 .lss 66 32]
 (cXx 67 6)) (.seq (.block 7 (.reg [mt 70 10,mt 71 10,aI 72 .quo 71 8,ib 73 25 1 6 72,lb 74 1 73,mt 75 10,aI 76 .rem 75 8,
  aJ 77 .mul 8 76,
  cVv 78 .u64 77,ak 79 .shr 74 78,
  cVv 80 .u8 79,ib 81 32 1 9 70,sb 1 81 80])) (.reg [mt 68 10,aI 69 .add 68 1,mt 10 69])))))) (sr [la 82 32 9,sb 32 2 82] .ret)))))))))))
def Ahf:LF:=⟨Alx,1,0,83,[.cell 2 true 32]⟩
def Alq:LC:=(sr [A1 0 (.mv (.c .nils))] (sr [A1 1 (.mv (.c .nils))] (sr [mI 2 1] (.seq (sr [mI 3 0] (.block 0 (.loop (.seq (sr [mt 6 3,aI 7 .lss 6 24]
 (cXx 7 0)) (.seq (.block 1 (sr [mU 4 0] (.seq (sr [mI 5 0] (.block 2 (.loop (.seq (sr [mt 10 5,aI 11 .lss 10 7]
 (cXx 11 2)) (.seq (.block 3 (.seq (sr [mt 14 2,aI 15 .rem 14 2,aI 16 .eql 15 1] (.cond (.t 16) (.reg [mt 17 4,mt 18 5,
  cVv 19 .u64 18,
  aV 20 .shl 1 19,
  aU 21 .sub 20 1,
  aV 22 .shl 1 21,ak 23 .or 17 22,mt 4 23]) .skip)) (sr [mt 24 2,aI 25 .mul 24 2,mt 2 25] (sr [mt 26 2,aI 27 .gtr 26 255] (.cond (.t 27) (.reg [mt 28 2,aI 29 .xor 28 369,mt 2 29]) .skip))))) (.reg [mt 12 5,aI 13 .add 12 1,mt 5 13])))))) (.reg [mt 30 1,mt 31 4,A1 32 (.bsl 1 1 (.int .u64) [(.i 1 0,1,(.t 31))]),
  aP 33 1 8 30 32,mt 1 33])))) (.reg [mt 8 3,aI 9 .add 8 1,mt 3 9])))))) (sr [mt 34 1,mt 0 34] .ret)))))
def Ad1:LF:=⟨Alq,0,0,35,[.tmp 0]⟩
def Al6:LC:=(sr [A1 0 (.mv (.c .nils))] (sr [A1 6 (.mksl 1 8 (.int .i64) (cI 25) (cI 25)),mt 1 6] (sr [mI 2 1,
  mI 3 0] (.seq (sr [mI 4 0] (.block 0 (.loop (.seq (sr [mt 7 4,aI 8 .lss 7 24]
 (cXx 8 0)) (.seq (.block 1 (sr [mt 11 1,mt 12 2,mt 13 3,
  aJ 14 .mul 5 13,ak 15 .add 12 14,mt 16 4,aI 17 .add 16 1,mt 18 4,aI 19 .add 18 2,ak 20 .mul 17 19,aI 21 .quo 20 2,aI 22 .rem 21 64,ia 23 1 11 15,sb 1 23 22] (sr [mt 24 2,
  aJ 25 .mul 2 24,mt 26 3,
  aJ 27 .mul 3 26,ak 28 .add 25 27,aI 29 .rem 28 5,mt 5 29] (sr [mt 30 3,mt 2 30] (.reg [mt 31 5,mt 3 31]))))) (.reg [mt 9 4,aI 10 .add 9 1,mt 4 10])))))) (sr [mt 32 1,mt 0 32] .ret)))))
def Agm:LF:=⟨Al6,0,0,33,[.tmp 0]⟩
def Al9:LC:=(sr [bX 3 0,A1 6 (.alloc (.ar 25 (.int .u64)))] (.seq (sr [mI 7 0] (.block 0 (.loop (.seq (sr [mt 19 7,aI 20 .lss 19 24]
 (cXx 20 0)) (.seq (.block 1 (sr [A1 8 (.alloc (.ar 25 (.int .u64))),A1 9 (.alloc (.ar 25 (.int .u64)))] (.seq (sr [mI 10 0] (.block 2 (.loop (.seq (sr [mt 23 10,aI 24 .lss 23 5]
 (cXx 24 2)) (.seq (.block 3 (sr [mU 11 0,
  mU 12 0] (.seq (sr [mI 13 0] (.block 4 (.loop (.seq (sr [mt 27 13,aI 28 .lss 27 25]
 (cXx 28 4)) (.seq (.block 5 (sr [mt 31 11,mt 32 10,aI 33 .add 32 4,aI 34 .rem 33 5,mt 35 13,ak 36 .add 34 35,ib 37 25 1 3 36,lb 38 1 37,ak 39 .xor 31 38,mt 11 39] (.reg [mt 40 12,mt 41 10,aI 42 .add 41 1,aI 43 .rem 42 5,mt 44 13,ak 45 .add 43 44,ib 46 25 1 3 45,lb 47 1 46,ak 48 .xor 40 47,mt 12 48]))) (.reg [mt 29 13,aI 30 .add 29 5,mt 13 30])))))) (sr [mI 14 0] (.block 6 (.loop (.seq (sr [mt 49 14,aI 50 .lss 49 25]
 (cXx 50 6)) (.seq (.block 7 (.regd [⟨10,0,mt 63 12⟩,⟨11,1,kl 64 461 [(.t 63),(cI 1)]⟩,⟨0,0,mt 53 10⟩,⟨1,0,mt 54 14⟩,⟨2,12,ak 55 .add 53 54⟩,⟨3,0,mt 56 10⟩,⟨4,0,mt 57 14⟩,⟨5,96,ak 58 .add 56 57⟩,⟨6,224,ib 59 25 1 3 58⟩,⟨7,480,lb 60 1 59⟩,⟨8,0,mt 61 11⟩,⟨9,2016,ak 62 .xor 60 61⟩,⟨12,4067,ak 65 .xor 62 64⟩,⟨13,8191,ib 66 25 1 8 55⟩,⟨14,16383,sb 1 66 65⟩])) (.reg [mt 51 14,aI 52 .add 51 5,mt 14 52]))))))))) (.reg [mt 25 10,aI 26 .add 25 1,mt 10 26])))))) (.seq (sr [mI 15 0] (.block 8 (.loop (.seq (sr [mt 67 15,aI 68 .lss 67 5]
 (cXx 68 8)) (.seq (.block 9 (sr [mI 16 0] (.block 10 (.loop (.seq (sr [mt 71 16,aI 72 .lss 71 5]
 (cXx 72 10)) (.seq (.block 11 (.regd [⟨9,0,mt 84 15⟩,⟨10,0,mt 85 16⟩,⟨11,2,aJ 86 .mul 5 85⟩,⟨12,7,ak 87 .add 84 86⟩,⟨13,15,ib 88 25 1 8 87⟩,⟨14,31,lb 89 1 88⟩,⟨15,0,mt 90 2⟩,⟨16,0,mt 91 15⟩,⟨17,0,mt 92 16⟩,⟨18,256,aJ 93 .mul 5 92⟩,⟨19,896,ak 94 .add 91 93⟩,⟨20,1984,ia 95 1 90 94⟩,⟨21,4032,lb 96 1 95⟩,⟨22,8191,kl 97 461 [(.t 89),(.t 96)]⟩,⟨0,0,mt 75 16⟩,⟨1,0,mt 76 15⟩,⟨2,32768,aJ 77 .mul 2 76⟩,⟨3,0,mt 78 16⟩,⟨4,131072,aJ 79 .mul 3 78⟩,⟨5,491520,ak 80 .add 77 79⟩,⟨6,1015808,aI 81 .rem 80 5⟩,⟨7,2064384,aJ 82 .mul 5 81⟩,⟨8,4177920,ak 83 .add 75 82⟩,⟨23,8388607,ib 98 25 1 9 83⟩,⟨24,16777215,sb 1 98 97⟩])) (.reg [mt 73 16,aI 74 .add 73 1,mt 16 74]))))))) (.reg [mt 69 15,aI 70 .add 69 1,mt 15 70])))))) (.seq (sr [mI 17 0] (.block 12 (.loop (.seq (sr [mt 99 17,aI 100 .lss 99 5]
 (cXx 100 12)) (.seq (.block 13 (sr [mI 18 0] (.block 14 (.loop (.seq (sr [mt 103 18,aI 104 .lss 103 5]
 (cXx 104 14)) (.seq (.block 15 (.regd [⟨0,0,mt 107 18⟩,⟨1,0,mt 108 17⟩,⟨2,2,aJ 109 .mul 5 108⟩,⟨3,7,ak 110 .add 107 109⟩,⟨4,0,mt 111 18⟩,⟨5,0,mt 112 17⟩,⟨6,32,aJ 113 .mul 5 112⟩,⟨7,112,ak 114 .add 111 113⟩,⟨8,240,ib 115 25 1 9 114⟩,⟨9,496,lb 116 1 115⟩,⟨10,0,mt 117 18⟩,⟨11,1024,aI 118 .add 117 1⟩,⟨12,3072,aI 119 .rem 118 5⟩,⟨13,0,mt 120 17⟩,⟨14,8192,aJ 121 .mul 5 120⟩,⟨15,31744,ak 122 .add 119 121⟩,⟨16,64512,ib 123 25 1 9 122⟩,⟨17,130048,lb 124 1 123⟩,⟨18,261120,aU 125 .xor 124 18446744073709551615⟩,⟨19,0,mt 126 18⟩,⟨20,524288,aI 127 .add 126 2⟩,⟨21,1572864,aI 128 .rem 127 5⟩,⟨22,0,mt 129 17⟩,⟨23,4194304,aJ 130 .mul 5 129⟩,⟨24,16252928,ak 131 .add 128 130⟩,⟨25,33030144,ib 132 25 1 9 131⟩,⟨26,66584576,lb 133 1 132⟩,⟨27,134216704,ak 134 .and 125 133⟩,⟨28,268435440,ak 135 .xor 116 134⟩,⟨29,536870911,ib 136 25 1 3 110⟩,⟨30,1073741823,sb 1 136 135⟩])) (.reg [mt 105 18,aI 106 .add 105 1,mt 18 106]))))))) (.reg [mt 101 17,aI 102 .add 101 1,mt 17 102]))))))
 (.regd [⟨0,0,iI 137 25 1 3 0⟩,⟨1,1,lb 138 1 137⟩,⟨2,0,mt 139 1⟩,⟨3,0,mt 140 7⟩,⟨4,12,ia 141 1 139 140⟩,⟨5,28,lb 142 1 141⟩,⟨6,63,ak 143 .xor 138 142⟩,⟨7,127,iI 144 25 1 3 0⟩,⟨8,255,sb 1 144 143⟩])))))) (.reg [mt 21 7,aI 22 .add 21 1,mt 7 22])))))) (sr [la 145 25 3,sb 25 6 145] .ret)))
def Ag4:LF:=⟨Al9,3,0,146,[.cell 6 true 25]⟩
def Afk:LC:=(sr [mU 4 0] (sr [mt 5 1,aI 6 .rem 5 64,mt 1 6] (.seq (sr [mt 7 1,aI 8 .eql 7 0] (.cond (.t 8) (sr [mt 9 0,mt 4 9] .ret) .skip)) (sr [mt 10 0,mt 11 1,
  cVv 12 .u64 11,ak 13 .shl 10 12,mt 14 0,mt 15 1,
  aJ 16 .sub 64 15,
  cVv 17 .u64 16,ak 18 .shr 14 17,ak 19 .or 13 18,mt 4 19] .ret))))
def Za:LF:=⟨Afk,2,0,20,[.tmp 4]⟩
structure OkB (M:Seat):Prop where
 k205:Al M 205 Afw=true
 k206:Al M 206 Adx=true
 k311:Al M 311 Ahf=true
 k413:Al M 413 Ad1=true
 k414:Al M 414 Agm=true
 k415:Al M 415 Ag4=true
 k461:Al M 461 Za=true
end Mv
namespace Mv
def Cq (w:Nat) (v:Nat→Nat):Nat→Nat
 | 0=>0
 | k + 1=>Cq w v k + (v k) <<< (w * k)
theorem KC (w:Nat) (v:Nat→Nat) (hv:∀ k,v k < 2 ^ w):∀ n,Cq w v n < 2 ^ (w * n)
 | 0=>by simp [Cq]
 | n + 1 => by
   have h:=KC w v hv n
   have h2:=hv n
   simp only [Cq,Nat.shiftLeft_eq]
   rw [Nat.mul_succ,Nat.pow_add,Nat.mul_comm (2 ^ (w * n))]
   have h3:(v n + 1) * 2 ^ (w * n)≤2 ^ w * 2 ^ (w * n):=Nat.mul_le_mul_right _ h2
   rw [Nat.add_mul] at h3
   omega
theorem Ed (w:Nat) (v:Nat→Nat) (hv:∀ k,v k < 2 ^ w):∀ n i,(Cq w v n >>> (w * i)) % 2 ^ w=if i < n then v i else 0
 | 0,i=>by simp [Cq]
 | n + 1, i => by
   have ih:=Ed w v hv n i
   have hlt:=KC w v hv n
   simp only [Cq,Nat.shiftLeft_eq,Nat.shiftRight_eq_div_pow] at ih ⊢
   by_cases h1:i < n
   ·rw [if_pos h1] at ih
    rw [if_pos Aa]
    have e1:w * n=w * i + (w + w * (n - i - 1)):=by
     have:n=i + 1 + (n - i - 1):=Aa
     rw [this,Nat.mul_add,Nat.mul_add]
     have e:i + 1 + (n - i - 1) - i - 1=n - i - 1:=Aa
     rw [e];omega
    have e2:v n * 2 ^ (w * n)=2 ^ (w * i) * (2 ^ w * (v n * 2 ^ (w * (n - i - 1)))):=by
     rw [e1,Nat.pow_add,Nat.pow_add]
     simp only [Nat.mul_assoc,Nat.mul_comm,Nat.mul_left_comm]
    rw [e2,Nat.add_mul_div_left _ _ (Nat.pow_pos Aa),Nat.add_mul_mod_self_left]
    exact ih
   ·by_cases h2:i=n
    ·subst h2
     rw [if_pos Aa,Nat.add_mul_div_right _ _ (Nat.pow_pos Aa),Nat.div_eq_of_lt hlt,Nat.zero_add,Nat.mod_eq_of_lt (hv i)]
    ·rw [if_neg Aa]
     have h3:Cq w v n + v n * 2 ^ (w * n) < 2 ^ (w * i):=by
      have:=KC w v hv (n + 1)
      simp only [Cq,Nat.shiftLeft_eq] at this
      exact Nat.lt_of_lt_of_le this (Nat.pow_le_pow_right Aa (Nat.mul_le_mul_left _ Aa))
     rw [Nat.div_eq_of_lt h3];rfl
theorem Ce (w:Nat) {u v:Nat→Nat}:∀ n,(∀ k,k < n→u k=v k)→Cq w u n=Cq w v n
 | 0,_=>rfl
 | n + 1,h=>by rw [Cq,Cq,Ce w n (fun k hk=>h k Aa),h n Aa]
def LB (s i:Nat):Nat:=(s >>> (64 * i)) % 18446744073709551616
def Ahw (x k:Nat):Nat:=(x <<< k) % 18446744073709551616 ||| x >>> (64 - k)
def Ab0 (s x:Nat):Nat:=LB s x ^^^ LB s (x + 5) ^^^ LB s (x + 10) ^^^ LB s (x + 15) ^^^ LB s (x + 20)
def Ag1 (s x:Nat):Nat:=Ab0 s ((x + 4) % 5) ^^^ Ahw (Ab0 s ((x + 1) % 5)) 1
def thN (s j:Nat):Nat:=LB s j ^^^ Ag1 s (j % 5)
def F8:List Nat:=[0,6,12,18,24,3,9,10,16,22,1,7,13,19,20,4,5,11,17,23,2,8,14,15,21]
def W3:List Nat:=[0,44,43,21,14,28,20,3,45,61,1,6,25,8,18,27,36,10,15,56,62,55,39,41,2]
def bN (s j:Nat):Nat:=Ahw (thN s (F8.getD j 0)) (W3.getD j 0)
def Ah4 (s j:Nat):Nat:=bN s j ^^^ ((18446744073709551615 ^^^ bN s (5 * (j / 5) + (j + 1) % 5)) &&& bN s (5 * (j / 5) + (j + 2) % 5))
def rcN (n:Nat):Nat:=(rounds.getD n 0).toNat
def Aa3 (s n:Nat):Nat:=Cq 64 (fun k=>Ah4 s k ^^^ (if k=0 then rcN n else 0)) 25
def Aew (s:Nat):Nat→Nat
 | 0=>s
 | n + 1=>Aa3 (Aew s n) n
def Yk (a j:Nat):Nat:=(a >>> (8 * j)) % 256
def Ag3 (a b j:Nat):Nat:=if j < 32 then Yk a j else if j < 64 then Yk b (j - 32) else if j=64 then 1 else if j=135 then 128 else 0
def xwN (p:Nat→Nat) (j:Nat):Nat→Nat
 | 0=>0
 | k + 1=>xwN p j k ^^^ ((p (8 * j + k) <<< (8 * k)) % 18446744073709551616)
def inN (a b:Nat):Nat:=Cq 64 (fun i=>if i < 17 then xwN (Ag3 a b) i 8 else 0) 25
def Ahx (s:Nat):Nat:=Cq 8 (fun i=>(LB s (i / 8) >>> (8 * (i % 8))) % 256) 32
def II (a b:Nat):Nat:=Ahx (Aew (inN a b) 24)
def Kb (d:Dg):Nat:=Cq 8 (fun i=>(d.at i).toNat) 32
theorem Pi (d:Dg) (i:Nat) (hi:i < 32):Yk (Kb d) i=(d.at i).toNat:=by
 have h:=Ed 8 (fun i=>(d.at i).toNat) (fun k=>(d.at k).isLt) 32 i
 rw [if_pos hi] at h
 exact h
def St (s:Nat) (l:List (BitVec 64)):Prop:=∀ i,i < 25→LB s i=(l.getD i 0).toNat
theorem OY (x:BitVec 64) (k:Nat):Ahw x.toNat k=(Qk x k).toNat:=Oq x k
theorem Aio {s:Nat} {l:List (BitVec 64)} (h:St s l) (x:Nat) (hx:x < 5):Ab0 s x=(par l x).toNat:=by
 simp only [Ab0,par,BitVec.toNat_xor,h x Aa,h (x + 5) Aa,h (x + 10) Aa,h (x + 15) Aa,h (x + 20) Aa]
theorem Afj {s:Nat} {l:List (BitVec 64)} (h:St s l) (x:Nat):Ag1 s x=(QJ l x).toNat:=by
 simp only [Ag1,QJ,BitVec.toNat_xor,Aio h _ (Nat.mod_lt _ (by omega:0 < 5)),OY]
theorem Aka {s:Nat} {l:List (BitVec 64)} (h:St s l) (j:Nat) (hj:j < 25):thN s j=((th l).getD j 0).toNat:=by
 rw [Sg _ _ hj,Jm,if_pos Aa,BitVec.toNat_xor,thN,h j hj,Afj h]
end Mv
