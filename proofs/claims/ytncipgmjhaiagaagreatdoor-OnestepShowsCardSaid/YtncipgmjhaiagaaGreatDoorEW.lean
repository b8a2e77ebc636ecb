/- A part. -/
import Derived.Test.YtncipgmjhaiagaaGreatDoorEV
set_option linter.all false
namespace Mv
open Go
variable {M:Seat}
def LZ:=(aq9 (Apn @LG @LP @LN @V.ren.eq_1 @V.ren.eq_2 @V.ren.eq_3 @V.ren.eq_4 @V.ren.eq_5 @V.ren.eq_6 @V.ren.eq_7 @V.ren.eq_8 @V.ren.eq_9 @V.ren.eq_10 @V.ren.eq_11) (Apn @V.ren.eq_12 @V.ren.eq_13 @AQ.eq_1 @AQ.eq_2 @A4.eq_1 @A4.eq_2 @A8.eq_1 @A8.eq_2 @A8.eq_3 @A8.eq_4 @TZ.eq_1 @TZ.eq_2 @F2.eq_1 @F2.eq_2) (Apk @Mv.hx.eq_1 @Dq.eq_1 @Dq.eq_2 @bs.eq_1 @G3.eq_1 @G3.eq_2 @LK.isW.eq_1 @LK.isW.eq_2 @LK.isW.eq_3 @LK.isW.eq_4 @LK.isW.eq_5 @LK.isW.eq_6 @LK.isW.eq_7 @LK.isA.eq_1 @LK.isA.eq_2) (Apn @LK.isA.eq_3 @LK.isA.eq_4 @LK.isA.eq_5 @LK.isA.eq_6 @LK.isA.eq_7 @LK.isP.eq_1 @LK.isP.eq_2 @LK.isP.eq_3 @LK.isP.eq_4 @LK.isP.eq_5 @LK.isP.eq_6 @LK.isP.eq_7 @LK.isP.eq_8 @LK.isP.eq_9) (Apn @LK.isP.eq_10 @LK.isP.eq_11 @YQ.eq_1 @YQ.eq_2 @X.ev.eq_1 @X.ev.eq_2 @X.ev.eq_3 @X.ev.eq_4 @BY.eq_1 @BY.eq_2 @By.eq_1 @By.eq_2 @DQ.eq_1 @DQ.eq_2) (Apk @C8.eq_1 @C8.eq_2 @hget.eq_1 @hget.eq_2 @Ch.eq_1 @Ch.eq_2 @BO.eq_1 @BO.eq_2 @Ae.eq_1 @Ae.eq_2 @CJ.eq_1 @CJ.eq_2 @CJ.eq_3 @V.ok.eq_1 @V.ok.eq_2) (Apn @V.ok.eq_3 @V.ok.eq_4 @V.ok.eq_5 @V.get.eq_1 @V.get.eq_2 @V.get.eq_3 @V.get.eq_4 @V.get.eq_5 @V.set.eq_1 @V.set.eq_2 @V.set.eq_3 @V.set.eq_4 @V.fget.eq_1 @V.fget.eq_2) (Apn @V.fhas.eq_1 @V.fhas.eq_2 @V.fset.eq_1 @V.fset.eq_2 @H4.eq_1 @H4.eq_2 @H4.eq_3 @Z.v.eq_1 @Z.v.eq_2 @Z.v.eq_3 @Z.v.eq_4 @Z.v.eq_5 @Z.v.eq_6 @Z.v.eq_7) (Apk @Z.v.eq_8 @Z.v.eq_9 @Z.v.eq_10 @Z.v.eq_11 @Z.v.eq_12 @Z.sz.eq_1 @Z.sz.eq_2 @Z.sz.eq_3 @Z.sz.eq_4 @Z.sz.eq_5 @BX.eq_1 @BX.eq_2 @BX.eq_3 @forall_const.{0} @forall_const.{1}))
def Lbp:=(aq2 @Int.cast_ofNat_Int @LZ)
def Ga:=(aq2 @LZ @mach.eq_1)
def Fj:=(aq2 @LZ @Ba.eq_1)
def Cb:=(aq2 @LZ @Ao.eq_1)
def LY:=(aq5 (Apn @Dg.at_zero @FH @Qr @LT @LP @Lj.eq_1 @Lj.eq_2 @AV.eq_1 @AV.eq_2 @AV.eq_3 @Aw.eq_1 @Aw.eq_2 @Aw.eq_3 @Aw.eq_4) (Apn @Aw.eq_5 @Aw.eq_6 @Aw.eq_7 @Aw.eq_8 @Aw.eq_9 @Aw.eq_10 @Aw.eq_11 @Aw.eq_12 @Aw.eq_13 @Aw.eq_14 @Aw.eq_15 @Aw.eq_16 @Aw.eq_17 @Aw.eq_18) (Apn @Aw.eq_19 @Aw.eq_20 @Aw.eq_21 @Aw.eq_22 @Aw.eq_23 @Aw.eq_24 @Aw.eq_25 @Aw.eq_26 @Aw.eq_27 @Aw.eq_28 @Aw.eq_29 @Aw.eq_30 @Aw.eq_31 @Aw.eq_32) (Apn @Aw.eq_33 @Aw.eq_34 @Aw.eq_35 @Aw.eq_36 @Aw.eq_37 @Bk.eq_1 @Bk.eq_2 @hget.eq_1 @hget.eq_2 @Ae.eq_1 @Ae.eq_2 @V.ok.eq_1 @V.ok.eq_2 @V.ok.eq_3) (Apk @V.ok.eq_4 @V.ok.eq_5 @V.get.eq_1 @V.get.eq_2 @V.get.eq_3 @V.get.eq_4 @V.get.eq_5 @V.fget.eq_1 @V.fget.eq_2 @V.fhas.eq_1 @V.fhas.eq_2 @An5 @Ank @implies_true.{0} @implies_true.{1}))
def LX:=(aq2 (Apo @Ao.eq_1 @BD.eq_1 @Ak1.eq_1 @Ba.eq_1 @mach.eq_1 @AD.eq_1 @AD.eq_2 @AD.eq_3 @AD.eq_4 @AD.eq_5 @AD.eq_6 @AD.eq_7) (Apo @AD.eq_8 @AD.eq_9 @AD.eq_10 @BE.eq_1 @BE.eq_2 @ws.eq_1 @Ru @Af4 @Pv @and_self @implies_true.{0} @implies_true.{1}))
def LV:=(Apo @DS.eq_1 @DS.eq_2 @Gx.eq_1 @Gx.eq_2 @Ig.eq_1 @Ig.eq_2 @Ek.eq_1 @Ek.eq_2 @Ao.eq_1 @BD.eq_1 @dg.eq_1 @IY)
def Fk:=(aq2 @LV @LZ)
def IT:=(aq2 @LY @Fk)
def LM:=(aq2 (App @UU @UP @Xa @Abj @Ad4 @UK @Yl @Ah0 @Aen @Afg @Ad0 @UZ @WT) (Apn @Abn @Ace @Aa9 @WK @XS @Xr @Z0 @Aay @Acg @Uo @UN @Qu @Rt @Yr))
def Gw:=(aq2 @LM @Cb)
def BA:=(aq2 @LM @LZ)
def C6:=(aq6 @Dl @WL @WG @Acm @PQ @U2)
def PR:=(aq2 @C6 @Ao.eq_1)
def CF:=(aq2 @C6 @LY)
theorem Ah {f:Nat} {us us0:List V} {H:Hp} {n:Nat} {K:V→Hp→Prop} {v:V} (hr:Af M f us0 [] 0 (Q3 v [] 0)) (hK:K v H) (hus:AV H [] (ids H) us0 us:=by ((try simp only [LY,seval]) <;> exact q1)) (hv:v.ren (Bc [] n 0)=v:=by first | rfl | (simp only [LN,LP,V.ren,Ao,BD])) (hn:AD v:=by simp only [LX]):AS M f us H n K:=Di hr hus hv hn hK
theorem Gh {f:Nat} {us us0:List V} {H Hn:Hp} {n kn:Nat} {K:V→Hp→Prop} {v:V} (hr:Af M f us0 [] 0 (Q3 v Hn kn)) (hK:K (v.ren (A8 [] n kn)) (AQ (A8 [] n kn) Hn ++ H)) (hk:decide (kn≤16)=true:=by decide) (hus:AV H [] (ids H) us0 us:=by ((try simp only [LY,seval]) <;> exact q1)) (hv:AD v:=by simp only [LX]) (hn:BE Hn:=by simp only [LX]):AS M f us H n K:=NB hr hk hus hv hn hK
theorem Tc {f:Nat} {us us0:List V} {H H0 Hn:Hp} {n k kn:Nat} {K:V→Hp→Prop} {v:V} (m:List Nat) (hr:Af M f us0 H0 k (Q3 v Hn kn)) (hK:K (v.ren (A8 m n kn)) (AQ (A8 m n kn) Hn ++ A4 H m)) (hm:(decide m.Nodup && decide (m.length=k) && decide (k≤kn) && decide (kn≤k + 16))=true:=by decide) (hall:(m.all fun i=>Ae H i)=true:=by rfl) (hus:AV H m (BS H m) us0 us:=by ((try simp only [LY,seval]) <;> exact q1)) (hH:Bk H m (BS H m) H0:=by ((try simp only [LY,seval]) <;> exact q1)) (hv:AD v:=by simp only [LX]) (hn:BE Hn:=by simp only [LX]):AS M f us H n K:=Nd m hr hm hall hus hH hv hn hK
theorem BI {f:Nat} {us us0:List V} {H:Hp} {n:Nat} {K:V→Hp→Prop} {v:V} (hr:Af M f us0 [] 0 (Q3 v [] 0)) (hK:K v H) (hus:AV H [] (ids H) us0 us:=by ((try simp only [LY,seval]) <;> exact q1)) (hv:v.ren (Bc [] n 0)=v:=by first | rfl | (simp only [LN,LP,V.ren,Ao,BD])) (hn:AD v:=by simp only [LX]):Fp M f us H n K:=WQ hr hus hv hn hK
theorem Aek {f:Nat} {us us0:List V} {H H0 Hn:Hp} {n k kn:Nat} {K:V→Hp→Prop} {v:V} (m:List Nat) (hr:Af M f us0 H0 k (Q3 v Hn kn)) (hK:K (v.ren (A8 m n kn)) (AQ (A8 m n kn) Hn ++ A4 H m)) (hm:(decide m.Nodup && decide (m.length=k) && decide (k≤kn) && decide (kn≤k + 16))=true:=by decide) (hall:(m.all fun i=>Ae H i)=true:=by rfl) (hus:AV H m (BS H m) us0 us:=by ((try simp only [LY,seval]) <;> exact q1)) (hH:Bk H m (BS H m) H0:=by ((try simp only [LY,seval]) <;> exact q1)) (hv:AD v:=by simp only [LX]) (hn:BE Hn:=by simp only [LX]):Fp M f us H n K:=Vz m hr hm hall hus hH hv hn hK
theorem Aq.mkZ {x:Ctx} {rs:List RVr} {Q:V→Hp→Nat→Prop} {A:List V} {H:Hp} {N:Nat} {k:Nat} (hx:x.k=k) (m:List Nat) {v:V} {H':Hp} {N':Nat} (h4:Q v H' N') (hm:(decide m.Nodup && ([]:List Nat).all (fun i=>!m.contains i) && decide (m.length≤N') && decide (k≤N') && (List.range k).all (fun j=>m[j]? == some j))=true:=by decide) (h1:(DS A H rs).1:=by (simp only [Fk,seval])) (h2:Bd H m [] v (DS A H rs).2:=by ((try simp only [IT,seval]) <;> exact q2)) (h3:Bk H m [] H':=by ((try simp only [LY,seval]) <;> exact q2)):Aq M x rs Q A H N:=Aq.mk hx m [] v H' N' hm h1 h2 h3 h4
theorem cpK {f:Nat} {us us0:List V} {H:Hp} {n:Nat} {K:V→Hp→Prop} {v:V} (hr:Af M f us0 [] 0 (Q3 v [] 0)) (hus:AV H [] (ids H) us0 us) (hn:AD v) (hK:K v H) (hv:v.ren (Bc [] n 0)=v:=by first | rfl | (simp only [LN,LP,V.ren,Ao,BD])):AS M f us H n K:=Di hr hus hv hn hK
theorem cfK {f:Nat} {us us0:List V} {H Hn:Hp} {n kn:Nat} {K:V→Hp→Prop} {v:V} (hr:Af M f us0 [] 0 (Q3 v Hn kn)) (hus:AV H [] (ids H) us0 us) (hn:AD v∧BE Hn) (hK:K (v.ren (A8 [] n kn)) (AQ (A8 [] n kn) Hn ++ H)) (hk:decide (kn≤16)=true:=by decide):AS M f us H n K:=NB hr hk hus hn.1 hn.2 hK
theorem cmK {f:Nat} {us us0:List V} {H H0 Hn:Hp} {n k kn:Nat} {K:V→Hp→Prop} {v:V} (m:List Nat) (hr:Af M f us0 H0 k (Q3 v Hn kn)) (hs:AV H m (BS H m) us0 us∧Bk H m (BS H m) H0) (hn:AD v∧BE Hn) (hK:K (v.ren (A8 m n kn)) (AQ (A8 m n kn) Hn ++ A4 H m)) (hm:(decide m.Nodup && decide (m.length=k) && decide (k≤kn) && decide (kn≤k + 16))=true:=by decide) (hall:(m.all fun i=>Ae H i)=true:=by rfl):AS M f us H n K:=Nd m hr hm hall hs.1 hs.2 hn.1 hn.2 hK
theorem Xi {f:Nat} {us us0:List V} {H H0 Hn:Hp} {n k kn:Nat} {K:V→Hp→Prop} {v:V} (m m0:List Nat) (hr:Af M f us0 H0 k (Q3 v Hn kn)) (hs:AV H m (BS H m) us0 us∧Bk H m (BS H m) H0) (hn:AD v∧BE Hn) (hK:K (v.ren (A8 m n kn)) (AQ (A8 m n kn) Hn ++ A4 H m0)) (h0:((ids H0).all fun id=>match m[id]? with | some i=>m0.contains i | none=>true)=true:=by rfl) (h0m:(m0.all fun i=>m.contains i)=true:=by rfl) (hm:(decide m.Nodup && decide (m.length=k) && decide (k≤kn) && decide (kn≤k + 16))=true:=by decide) (hall:(m.all fun i=>Ae H i || Cv us i)=true:=by rfl) (hall0:(m0.all fun i=>Ae H i)=true:=by rfl):AS M f us H n K:=SZ m m0 hr h0 h0m hm hall hall0 hs.1 hs.2 hn.1 hn.2 hK
theorem cnK {f:Nat} {us us0:List V} {H H0 Hn:Hp} {n k kn:Nat} {K:V→Hp→Prop} {v:V} (m m0:List Nat) (hr:Af M f us0 H0 k (Q3 v Hn kn)) (hs:AV H m [] us0 us∧Bk H m [] H0) (hK:K (v.ren (A8 m n kn)) (AQ (A8 m n kn) Hn ++ A4 H m0)) (h0:((ids H0).all fun id=>match m[id]? with | some i=>m0.contains i | none=>true)=true:=by rfl) (h0m:(m0.all fun i=>m.contains i)=true:=by rfl) (hm:(decide m.Nodup && decide (m.length=k) && decide (k≤kn) && decide (kn≤k + 16))=true:=by decide) (hall:(m.all fun i=>Ae H i || (GJ m0 H i || Cv us i))=true:=by rfl) (hall0:(m0.all fun i=>Ae H i)=true:=by rfl):AS M f us H n K:=SR m m0 hr h0 h0m hm hall hall0 hs.1 hs.2 hK
theorem Y9 {f:Nat} {us us0:List V} {H:Hp} {n:Nat} {K:V→Hp→Prop} {v:V} (hr:Af M f us0 [] 0 (Q3 v [] 0)) (hus:AV H [] (ids H) us0 us) (hn:AD v) (hK:K v H) (hv:v.ren (Bc [] n 0)=v:=by first | rfl | (simp only [LN,LP,V.ren,Ao,BD])):Fp M f us H n K:=WQ hr hus hv hn hK
theorem ofK {f:Nat} {us us0:List V} {H Hn:Hp} {n kn:Nat} {K:V→Hp→Prop} {v:V} (hr:Af M f us0 [] 0 (Q3 v Hn kn)) (hus:AV H [] (ids H) us0 us) (hn:AD v∧BE Hn) (hK:K (v.ren (A8 [] n kn)) (AQ (A8 [] n kn) Hn ++ H)) (hk:decide (kn≤16)=true:=by decide):Fp M f us H n K:=Ae2 hr hk hus hn.1 hn.2 hK
theorem omK {f:Nat} {us us0:List V} {H H0 Hn:Hp} {n k kn:Nat} {K:V→Hp→Prop} {v:V} (m:List Nat) (hr:Af M f us0 H0 k (Q3 v Hn kn)) (hs:AV H m (BS H m) us0 us∧Bk H m (BS H m) H0) (hn:AD v∧BE Hn) (hK:K (v.ren (A8 m n kn)) (AQ (A8 m n kn) Hn ++ A4 H m)) (hm:(decide m.Nodup && decide (m.length=k) && decide (k≤kn) && decide (kn≤k + 16))=true:=by decide) (hall:(m.all fun i=>Ae H i)=true:=by rfl):Fp M f us H n K:=Vz m hr hm hall hs.1 hs.2 hn.1 hn.2 hK
theorem obK {f:Nat} {us us0:List V} {H H0 Hn:Hp} {n k kn:Nat} {K:V→Hp→Prop} {v:V} (m m0:List Nat) (hr:Af M f us0 H0 k (Q3 v Hn kn)) (hs:AV H m (BS H m) us0 us∧Bk H m (BS H m) H0) (hn:AD v∧BE Hn) (hK:K (v.ren (A8 m n kn)) (AQ (A8 m n kn) Hn ++ A4 H m0)) (h0:((ids H0).all fun id=>match m[id]? with | some i=>m0.contains i | none=>true)=true:=by rfl) (h0m:(m0.all fun i=>m.contains i)=true:=by rfl) (hm:(decide m.Nodup && decide (m.length=k) && decide (k≤kn) && decide (kn≤k + 16))=true:=by decide) (hall:(m.all fun i=>Ae H i || Cv us i)=true:=by rfl) (hall0:(m0.all fun i=>Ae H i)=true:=by rfl):Fp M f us H n K:=Aht m m0 hr h0 h0m hm hall hall0 hs.1 hs.2 hn.1 hn.2 hK
theorem onK {f:Nat} {us us0:List V} {H H0 Hn:Hp} {n k kn:Nat} {K:V→Hp→Prop} {v:V} (m m0:List Nat) (hr:Af M f us0 H0 k (Q3 v Hn kn)) (hs:AV H m [] us0 us∧Bk H m [] H0) (hK:K (v.ren (A8 m n kn)) (AQ (A8 m n kn) Hn ++ A4 H m0)) (h0:((ids H0).all fun id=>match m[id]? with | some i=>m0.contains i | none=>true)=true:=by rfl) (h0m:(m0.all fun i=>m.contains i)=true:=by rfl) (hm:(decide m.Nodup && decide (m.length=k) && decide (k≤kn) && decide (kn≤k + 16))=true:=by decide) (hall:(m.all fun i=>Ae H i || (GJ m0 H i || Cv us i))=true:=by rfl) (hall0:(m0.all fun i=>Ae H i)=true:=by rfl):Fp M f us H n K:=Adz m m0 hr h0 h0m hm hall hall0 hs.1 hs.2 hK
theorem oyK {f:Nat} {v:V} {us us0:List V} {H:Hp} {n:Nat} {C:V→Hp→Prop} {r:V} (hf:Rz M f) (hr:Af M f us0 [] 0 (fun r' H' k'=>r'=r∧H'=[]∧k'=0)) (hus:AV H [] (ids H) us0 (us ++ [v])) (hn:AD r) (hC:C r H) (hv:(v.solid && !v.isAgg)=true:=by rfl) (hv2:r.ren (Bc [] n 0)=r:=by first | rfl | (simp only [LN,LP,V.ren,Ao,BD])):Ud M (.fn f (.st 1 (.fcons 0 v .fnil))) us H n C:=Ali hf hv hr hus hv2 hn hC
theorem rqK {x:Ctx} {rs:List RVr} {Q:V→Hp→Nat→Prop} {A:List V} {H:Hp} {N:Nat} {k:Nat} (hx:x.k=k) (m:List Nat) {v:V} {H':Hp} {N':Nat} (h4:Q v H' N') (h1:(DS A H rs).1) (h2:Bd H m [] v (DS A H rs).2) (h3:Bk H m [] H') (hm:(decide m.Nodup && ([]:List Nat).all (fun i=>!m.contains i) && decide (m.length≤N') && decide (k≤N') && (List.range k).all (fun j=>m[j]? == some j))=true:=by decide):Aq M x rs Q A H N:=Aq.mk hx m [] v H' N' hm h1 h2 h3 h4
theorem CI {f:Nat} {us us0:List V} {H:Hp} {n:Nat} {K:V→Hp→Prop} {v:V} (hr:Af M f us0 [] 0 (Q3 v [] 0)) (hK:K v H) (hv:v.ren (Bc [] n 0)=v:=by first | rfl | (simp only [LN,LP,V.ren,Ao,BD])) (hus:AV H [] (ids H) us0 us:=by (try simp only [zz,LY,seval]) <;> first | exact True.intro | rfl) (hn:AD v:=by simp only [zz,LX]):AS M f us H n K:=cpK hr hus hn hK hv
theorem El {f:Nat} {us us0:List V} {H Hn:Hp} {n kn:Nat} {K:V→Hp→Prop} {v:V} (hr:Af M f us0 [] 0 (Q3 v Hn kn)) (hK:K (v.ren (A8 [] n kn)) (AQ (A8 [] n kn) Hn ++ H)) (hk:decide (kn≤16)=true:=by decide) (hus:AV H [] (ids H) us0 us:=by (try simp only [zz,LY,seval]) <;> first | exact True.intro | rfl) (hn:AD v∧BE Hn:=by simp only [zz,LX]):AS M f us H n K:=cfK hr hus hn hK hk
theorem Fl {f:Nat} {us us0:List V} {H H0 Hn:Hp} {n k kn:Nat} {K:V→Hp→Prop} {v:V} (m:List Nat) (hr:Af M f us0 H0 k (Q3 v Hn kn)) (hK:K (v.ren (A8 m n kn)) (AQ (A8 m n kn) Hn ++ A4 H m)) (hm:(decide m.Nodup && decide (m.length=k) && decide (k≤kn) && decide (kn≤k + 16))=true:=by decide) (hall:(m.all fun i=>Ae H i)=true:=by rfl) (hs:AV H m (BS H m) us0 us∧Bk H m (BS H m) H0:=by constructor <;> (try simp only [zz,LY,seval]) <;> first | exact True.intro | rfl) (hn:AD v∧BE Hn:=by simp only [zz,LX]):AS M f us H n K:=cmK m hr hs hn hK hm hall
theorem JO {f:Nat} {us us0:List V} {H H0 Hn:Hp} {n k kn:Nat} {K:V→Hp→Prop} {v:V} (m m0:List Nat) (hr:Af M f us0 H0 k (Q3 v Hn kn)) (hK:K (v.ren (A8 m n kn)) (AQ (A8 m n kn) Hn ++ A4 H m0)) (h0:((ids H0).all fun id=>match m[id]? with | some i=>m0.contains i | none=>true)=true:=by rfl) (h0m:(m0.all fun i=>m.contains i)=true:=by rfl) (hm:(decide m.Nodup && decide (m.length=k) && decide (k≤kn) && decide (kn≤k + 16))=true:=by decide) (hall:(m.all fun i=>Ae H i || Cv us i)=true:=by rfl) (hall0:(m0.all fun i=>Ae H i)=true:=by rfl) (hs:AV H m (BS H m) us0 us∧Bk H m (BS H m) H0:=by constructor <;> (try simp only [zz,LY,seval]) <;> first | exact True.intro | rfl) (hn:AD v∧BE Hn:=by simp only [zz,LX]):AS M f us H n K:=Xi m m0 hr hs hn hK h0 h0m hm hall hall0
theorem IJ {f:Nat} {us us0:List V} {H H0 Hn:Hp} {n k kn:Nat} {K:V→Hp→Prop} {v:V} (m m0:List Nat) (hr:Af M f us0 H0 k (Q3 v Hn kn)) (hK:K (v.ren (A8 m n kn)) (AQ (A8 m n kn) Hn ++ A4 H m0)) (h0:((ids H0).all fun id=>match m[id]? with | some i=>m0.contains i | none=>true)=true:=by rfl) (h0m:(m0.all fun i=>m.contains i)=true:=by rfl) (hm:(decide m.Nodup && decide (m.length=k) && decide (k≤kn) && decide (kn≤k + 16))=true:=by decide) (hall:(m.all fun i=>Ae H i || (GJ m0 H i || Cv us i))=true:=by rfl) (hall0:(m0.all fun i=>Ae H i)=true:=by rfl) (hs:AV H m [] us0 us∧Bk H m [] H0:=by constructor <;> (try simp only [zz,LY,seval]) <;> first | exact True.intro | rfl):AS M f us H n K:=cnK m m0 hr hs hK h0 h0m hm hall hall0
theorem Gy {f:Nat} {us us0:List V} {H:Hp} {n:Nat} {K:V→Hp→Prop} {v:V} (hr:Af M f us0 [] 0 (Q3 v [] 0)) (hK:K v H) (hv:v.ren (Bc [] n 0)=v:=by first | rfl | (simp only [LN,LP,V.ren,Ao,BD])) (hus:AV H [] (ids H) us0 us:=by (try simp only [zz,LY,seval]) <;> first | exact True.intro | rfl) (hn:AD v:=by simp only [zz,LX]):Fp M f us H n K:=Y9 hr hus hn hK hv
theorem IM {f:Nat} {us us0:List V} {H Hn:Hp} {n kn:Nat} {K:V→Hp→Prop} {v:V} (hr:Af M f us0 [] 0 (Q3 v Hn kn)) (hK:K (v.ren (A8 [] n kn)) (AQ (A8 [] n kn) Hn ++ H)) (hk:decide (kn≤16)=true:=by decide) (hus:AV H [] (ids H) us0 us:=by (try simp only [zz,LY,seval]) <;> first | exact True.intro | rfl) (hn:AD v∧BE Hn:=by simp only [zz,LX]):Fp M f us H n K:=ofK hr hus hn hK hk
theorem Pd {f:Nat} {us us0:List V} {H H0 Hn:Hp} {n k kn:Nat} {K:V→Hp→Prop} {v:V} (m:List Nat) (hr:Af M f us0 H0 k (Q3 v Hn kn)) (hK:K (v.ren (A8 m n kn)) (AQ (A8 m n kn) Hn ++ A4 H m)) (hm:(decide m.Nodup && decide (m.length=k) && decide (k≤kn) && decide (kn≤k + 16))=true:=by decide) (hall:(m.all fun i=>Ae H i)=true:=by rfl) (hs:AV H m (BS H m) us0 us∧Bk H m (BS H m) H0:=by constructor <;> (try simp only [zz,LY,seval]) <;> first | exact True.intro | rfl) (hn:AD v∧BE Hn:=by simp only [zz,LX]):Fp M f us H n K:=omK m hr hs hn hK hm hall
theorem obY {f:Nat} {us us0:List V} {H H0 Hn:Hp} {n k kn:Nat} {K:V→Hp→Prop} {v:V} (m m0:List Nat) (hr:Af M f us0 H0 k (Q3 v Hn kn)) (hK:K (v.ren (A8 m n kn)) (AQ (A8 m n kn) Hn ++ A4 H m0)) (h0:((ids H0).all fun id=>match m[id]? with | some i=>m0.contains i | none=>true)=true:=by rfl) (h0m:(m0.all fun i=>m.contains i)=true:=by rfl) (hm:(decide m.Nodup && decide (m.length=k) && decide (k≤kn) && decide (kn≤k + 16))=true:=by decide) (hall:(m.all fun i=>Ae H i || Cv us i)=true:=by rfl) (hall0:(m0.all fun i=>Ae H i)=true:=by rfl) (hs:AV H m (BS H m) us0 us∧Bk H m (BS H m) H0:=by constructor <;> (try simp only [zz,LY,seval]) <;> first | exact True.intro | rfl) (hn:AD v∧BE Hn:=by simp only [zz,LX]):Fp M f us H n K:=obK m m0 hr hs hn hK h0 h0m hm hall hall0
theorem onY {f:Nat} {us us0:List V} {H H0 Hn:Hp} {n k kn:Nat} {K:V→Hp→Prop} {v:V} (m m0:List Nat) (hr:Af M f us0 H0 k (Q3 v Hn kn)) (hK:K (v.ren (A8 m n kn)) (AQ (A8 m n kn) Hn ++ A4 H m0)) (h0:((ids H0).all fun id=>match m[id]? with | some i=>m0.contains i | none=>true)=true:=by rfl) (h0m:(m0.all fun i=>m.contains i)=true:=by rfl) (hm:(decide m.Nodup && decide (m.length=k) && decide (k≤kn) && decide (kn≤k + 16))=true:=by decide) (hall:(m.all fun i=>Ae H i || (GJ m0 H i || Cv us i))=true:=by rfl) (hall0:(m0.all fun i=>Ae H i)=true:=by rfl) (hs:AV H m [] us0 us∧Bk H m [] H0:=by constructor <;> (try simp only [zz,LY,seval]) <;> first | exact True.intro | rfl):Fp M f us H n K:=onK m m0 hr hs hK h0 h0m hm hall hall0
theorem Bg {x:Ctx} {rs:List RVr} {Q:V→Hp→Nat→Prop} {A:List V} {H:Hp} {N:Nat} {k:Nat} (hx:x.k=k) (m:List Nat) {v:V} {H':Hp} {N':Nat} (h4:Q v H' N') (h1:(DS A H rs).1:=by simp only [zz,Fk,seval]) (h2:Bd H m [] v (DS A H rs).2:=by (try simp only [zz,IT,seval]) <;> first | exact True.intro | (intros;rfl)) (h3:Bk H m [] H':=by (try simp only [zz,LY,seval]) <;> first | exact True.intro | (intros;rfl)) (hm:(decide m.Nodup && ([]:List Nat).all (fun i=>!m.contains i) && decide (m.length≤N') && decide (k≤N') && (List.range k).all (fun j=>m[j]? == some j))=true:=by decide):Aq M x rs Q A H N:=rqK hx m h4 h1 h2 h3 hm
theorem ID {x:Ctx} {rs:List RVr} {Q:V→Hp→Nat→Prop} {A:List V} {H:Hp} {N:Nat} {k:Nat} (hx:x.k=k) (m:List Nat) (v:V) (H':Hp) (N':Nat) (h3:Bk H m [] H') (hm:(decide m.Nodup && ([]:List Nat).all (fun i=>!m.contains i) && decide (m.length≤N') && decide (k≤N') && (List.range k).all (fun j=>m[j]? == some j))=true:=by decide) (h1:(DS A H rs).1:=by simp only [Fk,seval]) (h2:Bd H m [] v (DS A H rs).2:=by (try simp only [IT,seval]) <;> first | exact True.intro | (intros;rfl)) (h4:Q v H' N':=by exact ⟨rfl,rfl,rfl⟩):Aq M x rs Q A H N:=Aq.mk hx m [] v H' N' hm h1 h2 h3 h4
def Ajt:LC:=(sr [A1 2 (.alloc (.ar 32 (.int .u8)))]
 (sr [kl 6 418 [],
  mt 3 6]
 (sr [mt 7 3,
  mt 8 0,
  kl 9 419 [(.t 7),(.t 8)]]
 (sr [mt 11 3,
  kl 12 420 [(.t 11)],
  mt 10 12,
  A1 13 (.ext (.t 10) 0),
  A1 14 (.ext (.t 10) 1),
  A1 4 (.alloc (.ar 32 (.int .u8))),
  A0 (.store 32 (.t 4) (.t 13)),
  mt 5 14]
 (sr [A1 15 (.load true 32 (.t 4)),
  A0 (.store 32 (.t 2) (.t 15))]
 (.ret))))))
def Aff:LF:=⟨Ajt,1,0,16,[.cell 2 true 32]⟩
def Alo:LC:=(sr [A1 0 (.mv (.c .nilp))]
 (sr [A1 1 (.build (.st (.cons (.ar 25 (.int .u64)) (.cons .slice .nil))) []),
  A1 2 (.box (.t 1)),
  mt 0 2]
 (.ret)))
def Agw:LF:=⟨Alo,0,0,3,[.tmp 0]⟩
def Amb:LC:=(sr [mn 4]
 (.seq (sr [mt 5 0,
  A1 6 (.eq false true .ptr (.t 5) (.c .nilp))]
 (.cond (.t 6) (sr [A1 7 (.mkif 74 (cI 1)),
  mt 4 7]
 (.ret)) (.skip)))
 (sr [mt 8 0,
  mt 9 0,
  A1 10 (.nilc (.t 9)),
  A1 11 (.fadr 25 (.t 10)),
  A1 12 (.load false 1 (.t 11)),
  mt 13 1,
  A1 14 (.app 1 1 (.t 12) (.t 13)),
  A1 15 (.nilc (.t 8)),
  A1 16 (.fadr 25 (.t 15)),
  A0 (.store 1 (.t 16) (.t 14))]
 (.seq (.block 0 (.loop (.seq (sr [mt 17 0,
  A1 18 (.nilc (.t 17)),
  A1 19 (.fadr 25 (.t 18)),
  A1 20 (.load false 1 (.t 19)),
  A1 21 (.len 0 (.t 20)),
  A1 22 (.ari .geq (.t 21) (cI 136))]
 (.cond (.t 22) (.skip) (.exit 0)))
 (.block 1 (.seq (.regd [⟨1,0,mt 24 0⟩,
  ⟨2,1,A1 25 (.nilc (.t 24))⟩,
  ⟨3,3,A1 26 (.fadr 0 (.t 25))⟩,
  ⟨4,7,A1 27 (.load true 25 (.t 26))⟩,
  ⟨5,0,mt 28 0⟩,
  ⟨6,16,A1 29 (.nilc (.t 28))⟩,
  ⟨7,48,A1 30 (.fadr 25 (.t 29))⟩,
  ⟨8,112,A1 31 (.load false 1 (.t 30))⟩,
  ⟨9,240,A1 32 (.slsl 1 (.t 31) none (some (cI 136)))⟩,
  ⟨10,511,kl 33 318 [(.t 27),(.t 32)]⟩,
  ⟨0,0,mt 23 0⟩,
  ⟨11,2047,A1 34 (.nilc (.t 23))⟩,
  ⟨12,4095,A1 35 (.fadr 0 (.t 34))⟩,
  ⟨13,8191,A0 (.store 25 (.t 35) (.t 33))⟩])
 (.reg [mt 36 0,
  mt 37 0,
  A1 38 (.nilc (.t 37)),
  A1 39 (.fadr 25 (.t 38)),
  A1 40 (.load false 1 (.t 39)),
  A1 41 (.slsl 1 (.t 40) (some (cI 136)) none),
  kl 42 277 [(.t 41)],
  A1 43 (.nilc (.t 36)),
  A1 44 (.fadr 25 (.t 43)),
  A0 (.store 1 (.t 44) (.t 42))]))))))
 (sr [mn 4]
 (.ret))))))
def Ahq:LF:=⟨Amb,2,0,45,[.tmp 4]⟩
def Amk:LC:=(sr [A1 2 (.alloc (.ar 32 (.int .u8))),
 mn 3]
 (.seq (sr [mt 5 0,
  A1 6 (.eq false true .ptr (.t 5) (.c .nilp))]
 (.cond (.t 6) (sr [A1 7 (.build (.ar 32 (.int .u8)) []),
  A1 8 (.mkif 74 (cI 1)),
  A0 (.store 32 (.t 2) (.t 7)),
  mt 3 8]
 (.ret)) (.skip)))
 (sr [A1 9 (.mksl 1 1 (.int .u8) (cI 136) (cI 136)),
  mt 4 9]
 (sr [mt 10 4,
  mt 11 0,
  A1 12 (.nilc (.t 11)),
  A1 13 (.fadr 25 (.t 12)),
  A1 14 (.load false 1 (.t 13)),
  A1 15 (.copy 1 (.t 10) (.t 14))]
 (sr [mt 16 4,
  mt 17 0,
  A1 18 (.nilc (.t 17)),
  A1 19 (.fadr 25 (.t 18)),
  A1 20 (.load false 1 (.t 19)),
  A1 21 (.len 0 (.t 20)),
  A1 22 (.isl 1 (.t 16) (.t 21)),
  A1 23 (.load false 1 (.t 22)),
  A1 24 (.ari .xor (.t 23) (.c (.int .u8 1))),
  A1 25 (.isl 1 (.t 16) (.t 21)),
  A0 (.store 1 (.t 25) (.t 24))]
 (sr [mt 26 4,
  A1 27 (.isl 1 (.t 26) (cI 135)),
  A1 28 (.load false 1 (.t 27)),
  A1 29 (.ari .xor (.t 28) (.c (.int .u8 128))),
  A1 30 (.isl 1 (.t 26) (cI 135)),
  A0 (.store 1 (.t 30) (.t 29))]
 (sr [mt 31 0,
  A1 32 (.nilc (.t 31)),
  A1 33 (.fadr 0 (.t 32)),
  A1 34 (.load true 25 (.t 33)),
  mt 35 4,
  kl 36 318 [(.t 34),(.t 35)],
  kl 37 317 [(.t 36)],
  A0 (.store 32 (.t 2) (.t 37)),
  mn 3]
 (.ret))))))))
def Aij:LF:=⟨Amk,1,0,38,[.cell 2 true 32,.tmp 3]⟩
def Alj:LC:=(sr [A1 2 (.mv (cU 0))]
 (sr [A1 3 (.mv (cU 0))]
 (.seq (sr [mt 6 0,
  A1 7 (.slsl 1 (.t 6) none (some (cI 8))),
  A1 8 (.len 0 (.t 7)),
  A1 9 (.mv (cI 0))]
 (.block 0 (.loop (sr [A1 10 (.ari .lss (.t 9) (.t 8))]
 (.seq (.cond (.t 10) (.skip) (.exit 0))
 (.seq (.block 1 (sr [A1 11 (.isl 1 (.t 7) (.t 9)),
  A1 12 (.load false 1 (.t 11)),
  mt 5 12]
 (.reg [mt 13 3,
  A1 14 (.ari .shl (.t 13) (cU 8)),
  mt 15 5,
  A1 16 (.conv .u64 (.t 15)),
  A1 17 (.ari .or (.t 14) (.t 16)),
  mt 3 17])))
 (.reg [A1 18 (.ari .add (.t 9) (cI 1)),
  mt 9 18])))))))
 (sr [mt 19 3,
  mt 2 19]
 (.ret)))))
def Aia:LF:=⟨Alj,1,0,20,[.tmp 2]⟩
def Ah3:LC:=(sr [A1 4 (.mv (.c .nils))]
 (sr [A1 5 (.alloc (.ar 8 (.int .u8)))]
 (sr [A1 6 (.slarr 8 1 (.t 5) none none),
  mt 7 1,
  kl 8 312 [(.t 6),(.t 7)]]
 (sr [mt 9 0,
  A1 10 (.slarr 8 1 (.t 5) none none),
  A1 11 (.app 1 1 (.t 9) (.t 10)),
  mt 4 11]
 (.ret)))))
def ZF:LF:=⟨Ah3,2,0,12,[.tmp 4]⟩
def c68:LC:=(sr [A1 0 (.mv (.c .nilp))]
 (sr [A1 5 (.mkmap (.ar 32 (.int .u8)) (.ar 64 (.int .u8))),
  A1 6 (.mkmap (.ar 32 (.int .u8)) (.ar 64 (.int .u8))),
  A1 7 (.build (.st (.cons .map (.cons (.ar 64 (.int .u8)) (.cons (.ar 64 (.int .u8)) (.cons .bool .nil))))) [(.f 0,1,(.t 6))]),
  A1 8 (.box (.t 7)),
  A1 9 (.mkmap (.ar 32 (.int .u8)) .bool),
  A1 10 (.build (.st (.cons .map (.cons .ptr (.cons .map (.cons .slice .nil))))) [(.f 0,1,(.t 5)),(.f 1,1,(.t 8)),(.f 2,1,(.t 9))]),
  A1 11 (.box (.t 10)),
  mt 1 11]
 (.seq (sr [A1 12 (.mv (cI 0))]
 (.block 0 (.loop (sr [A1 13 (.ari .lss (.t 12) (cI 16))]
 (.seq (.cond (.t 13) (.skip) (.exit 0))
 (.seq (.block 1 (sr [mt 14 12,
  mt 2 14]
 (sr [mt 16 2,
  kl 17 197 [(.t 16)],
  mt 15 17,
  A1 18 (.ext (.t 15) 0),
  A1 19 (.ext (.t 15) 1),
  A1 3 (.alloc (.ar 32 (.int .u8))),
  A0 (.store 32 (.t 3) (.t 18)),
  mt 4 19]
 (.reg [mt 20 1,
  A1 21 (.load true 32 (.t 3)),
  A1 22 (.load true 32 (.t 3)),
  kl 23 213 [(.t 21),(.t 22)],
  kl 24 212 [(.t 20),(.t 23)]]))))
 (.reg [A1 25 (.ari .add (.t 12) (cI 1)),
  mt 12 25])))))))
 (sr [mt 26 1,
  mt 0 26]
 (.ret)))))
def f68:LF:=⟨c68,0,0,27,[.tmp 0]⟩
def Aiz:LC:=(sr [A1 3 (.box (.t 1)),
 A1 4 (.alloc (.ar 32 (.int .u8))),
 mn 5]
 (.seq (sr [mt 7 0,
  A1 8 (.eq false true .ptr (.t 7) (.c .nilp))]
 (.cond (.t 8) (sr [A1 9 (.build (.ar 32 (.int .u8)) []),
  A1 10 (.mkif 74 (cI 1)),
  A0 (.store 32 (.t 4) (.t 9)),
  mt 5 10]
 (.ret)) (.skip)))
 (sr [A1 11 (.slarr 64 1 (.t 3) none none),
  kl 12 319 [(.t 11)],
  A1 6 (.alloc (.ar 32 (.int .u8))),
  A0 (.store 32 (.t 6) (.t 12))]
 (.seq (.regd [⟨0,0,mt 13 0⟩,
  ⟨1,1,A1 14 (.nilc (.t 13))⟩,
  ⟨2,3,A1 15 (.fadr 0 (.t 14))⟩,
  ⟨3,7,A1 16 (.load false 1 (.t 15))⟩,
  ⟨4,0,A1 17 (.load true 32 (.t 6))⟩,
  ⟨5,0,A1 18 (.load true 64 (.t 3))⟩,
  ⟨6,63,A0 (.mupd (.ar 32 1 false .int) (.t 16) (.t 17) (.t 18))⟩])
 (.seq (.regd [⟨0,0,mt 19 0⟩,
  ⟨1,1,A1 20 (.nilc (.t 19))⟩,
  ⟨2,3,A1 21 (.fadr 1 (.t 20))⟩,
  ⟨3,7,A1 22 (.load false 1 (.t 21))⟩,
  ⟨4,0,A1 23 (.load true 32 (.t 6))⟩,
  ⟨5,0,A1 24 (.load true 64 (.t 3))⟩,
  ⟨6,63,kl 25 320 [(.t 22),(.t 23),(.t 24)]⟩])
 (sr [A1 26 (.load true 32 (.t 6)),
  A0 (.store 32 (.t 4) (.t 26)),
  mn 5]
 (.ret)))))))
def Zw:LF:=⟨Aiz,2,0,27,[.cell 4 true 32,.tmp 5]⟩
def Aje:LC:=(sr [A1 2 (.box (.t 0)),
 A1 3 (.box (.t 1)),
 A1 4 (.alloc (.ar 64 (.int .u8)))]
 (sr [A1 5 (.alloc (.ar 64 (.int .u8)))]
 (.seq (.regd [⟨0,0,A1 6 (.slarr 64 1 (.t 5) none (some (cI 32)))⟩,
  ⟨1,0,A1 7 (.slarr 32 1 (.t 2) none none)⟩,
  ⟨2,3,A1 8 (.copy 1 (.t 6) (.t 7))⟩])
 (.seq (.regd [⟨0,0,A1 9 (.slarr 64 1 (.t 5) (some (cI 32)) none)⟩,
  ⟨1,0,A1 10 (.slarr 32 1 (.t 3) none none)⟩,
  ⟨2,3,A1 11 (.copy 1 (.t 9) (.t 10))⟩])
 (sr [A1 12 (.load true 64 (.t 5)),
  A0 (.store 64 (.t 4) (.t 12))]
 (.ret))))))
def Ain:LF:=⟨Aje,2,0,13,[.cell 4 true 64]⟩
def Vy:LC:=(sr [A1 4 (.box (.t 1)),
 A1 5 (.box (.t 2))]
 (.seq (.regd [⟨0,0,mt 9 0⟩,
  ⟨1,1,A1 10 (.nilc (.t 9))⟩,
  ⟨2,3,A1 11 (.fadr 0 (.t 10))⟩,
  ⟨3,7,A1 12 (.load false 1 (.t 11))⟩,
  ⟨4,0,A1 13 (.load true 32 (.t 4))⟩,
  ⟨5,31,A1 14 (.mlook (.ar 32 1 false .int) (.ar 64 (.int .u8)) true (.t 12) (.t 13))⟩,
  ⟨6,63,mt 8 14⟩,
  ⟨7,127,A1 15 (.ext (.t 8) 0)⟩,
  ⟨9,0,A1 6 (.alloc (.ar 64 (.int .u8)))⟩,
  ⟨10,511,A0 (.store 64 (.t 6) (.t 15))⟩,
  ⟨8,127,A1 16 (.ext (.t 8) 1)⟩,
  ⟨11,2047,mt 7 16⟩])
 (sr [mt 17 7,
  A1 18 (.un .not (.t 17))]
 (.cond (.t 18) (.regd [⟨0,0,mt 19 0⟩,
  ⟨1,1,A1 20 (.nilc (.t 19))⟩,
  ⟨2,3,A1 21 (.fadr 0 (.t 20))⟩,
  ⟨3,7,A1 22 (.load false 1 (.t 21))⟩,
  ⟨4,0,A1 23 (.load true 32 (.t 4))⟩,
  ⟨5,0,A1 24 (.load true 64 (.t 5))⟩,
  ⟨6,63,A0 (.mupd (.ar 32 1 false .int) (.t 22) (.t 23) (.t 24))⟩]) (sr [A1 25 (.load true 64 (.t 6)),
  A1 26 (.load true 64 (.t 5)),
  A1 27 (.eq true false (.ar 64 1 false .int) (.t 25) (.t 26)),
  mt 28 27,
  A2 29 28 true (.mv (.t 0)),
  A2 30 28 true (.nilc (.t 29)),
  A2 31 28 true (.fadr 129 (.t 30)),
  A2 32 28 true (.load false 1 (.t 31)),
  A2 33 28 true (.un .not (.t 32)),
  A1 34 (.pick (.t 28) (.t 33) (.c (.bool false)))]
 (.cond (.t 34) (.regd [⟨0,0,mt 35 0⟩,
  ⟨3,0,A1 38 (.load true 64 (.t 6))⟩,
  ⟨5,3,A1 40 (.nilc (.t 35))⟩,
  ⟨6,7,A1 41 (.fadr 1 (.t 40))⟩,
  ⟨7,15,A0 (.store 64 (.t 41) (.t 38))⟩,
  ⟨1,0,mt 36 0⟩,
  ⟨4,0,A1 39 (.load true 64 (.t 5))⟩,
  ⟨8,127,A1 42 (.nilc (.t 36))⟩,
  ⟨9,255,A1 43 (.fadr 65 (.t 42))⟩,
  ⟨10,511,A0 (.store 64 (.t 43) (.t 39))⟩,
  ⟨2,0,mt 37 0⟩,
  ⟨11,2047,A1 44 (.nilc (.t 37))⟩,
  ⟨12,4095,A1 45 (.fadr 129 (.t 44))⟩,
  ⟨13,8191,A0 (.store 1 (.t 45) (.c (.bool true)))⟩]) (.skip)))))))
def Va:LF:=⟨Vy,3,0,46,[]⟩
def Uu:LC:=(sr [A1 3 (.box (.t 1)),
 A1 4 (.alloc (.ar 64 (.int .u8))),
 mn 5]
 (.seq (sr [mt 8 0,
  A1 9 (.eq false true .ptr (.t 8) (.c .nilp))]
 (.cond (.t 9) (sr [A1 10 (.build (.ar 64 (.int .u8)) []),
  A1 11 (.mkif 74 (cI 1)),
  A0 (.store 64 (.t 4) (.t 10)),
  mt 5 11]
 (.ret)) (.skip)))
 (.seq (.seq (.regd [⟨0,0,mt 12 0⟩,
  ⟨1,1,A1 13 (.nilc (.t 12))⟩,
  ⟨2,3,A1 14 (.fadr 2 (.t 13))⟩,
  ⟨3,7,A1 15 (.load false 1 (.t 14))⟩,
  ⟨4,0,A1 16 (.load true 32 (.t 3))⟩,
  ⟨5,31,A1 17 (.mlook (.ar 32 1 false .int) .bool false (.t 15) (.t 16))⟩,
  ⟨6,63,A1 18 (.un .not (.t 17))⟩])
 (.cond (.t 18) (.seq (.regd [⟨0,0,mt 19 0⟩,
  ⟨1,1,A1 20 (.nilc (.t 19))⟩,
  ⟨2,3,A1 21 (.fadr 2 (.t 20))⟩,
  ⟨3,7,A1 22 (.load false 1 (.t 21))⟩,
  ⟨4,0,A1 23 (.load true 32 (.t 3))⟩,
  ⟨5,31,A0 (.mupd (.ar 32 1 false .int) (.t 22) (.t 23) (.c (.bool true)))⟩])
 (.regd [⟨1,0,mt 25 0⟩,
  ⟨2,1,A1 26 (.nilc (.t 25))⟩,
  ⟨3,3,A1 27 (.fadr 3 (.t 26))⟩,
  ⟨4,7,A1 28 (.load false 1 (.t 27))⟩,
  ⟨5,0,A1 29 (.load true 32 (.t 3))⟩,
  ⟨6,16,A1 30 (.bsl 32 1 (.ar 32 (.int .u8)) [(.i 32 0,32,(.t 29))])⟩,
  ⟨7,63,A1 31 (.app 32 32 (.t 28) (.t 30))⟩,
  ⟨0,0,mt 24 0⟩,
  ⟨8,255,A1 32 (.nilc (.t 24))⟩,
  ⟨9,511,A1 33 (.fadr 3 (.t 32))⟩,
  ⟨10,1023,A0 (.store 1 (.t 33) (.t 31))⟩])) (.skip)))
 (.seq (.regd [⟨0,0,mt 35 0⟩,
  ⟨1,1,A1 36 (.nilc (.t 35))⟩,
  ⟨2,3,A1 37 (.fadr 0 (.t 36))⟩,
  ⟨3,7,A1 38 (.load false 1 (.t 37))⟩,
  ⟨4,0,A1 39 (.load true 32 (.t 3))⟩,
  ⟨5,31,A1 40 (.mlook (.ar 32 1 false .int) (.ar 64 (.int .u8)) true (.t 38) (.t 39))⟩,
  ⟨6,63,mt 34 40⟩,
  ⟨7,127,A1 41 (.ext (.t 34) 0)⟩,
  ⟨9,0,A1 6 (.alloc (.ar 64 (.int .u8)))⟩,
  ⟨10,511,A0 (.store 64 (.t 6) (.t 41))⟩,
  ⟨8,127,A1 42 (.ext (.t 34) 1)⟩,
  ⟨11,2047,mt 7 42⟩])
 (.seq (sr [mt 43 7,
  A1 44 (.un .not (.t 43))]
 (.cond (.t 44) (sr [A1 45 (.build (.ar 64 (.int .u8)) []),
  A1 46 (.mkif 74 (cI 14)),
  A0 (.store 64 (.t 4) (.t 45)),
  mt 5 46]
 (.ret)) (.skip)))
 (sr [A1 47 (.load true 64 (.t 6)),
  A0 (.store 64 (.t 4) (.t 47)),
  mn 5]
 (.ret)))))))
def Qo:LF:=⟨Uu,2,0,48,[.cell 4 true 64,.tmp 5]⟩
def c72:LC:=(sr [A1 2 (.mv (cI 0))]
 (.seq (sr [mt 3 0,
  A1 4 (.eq false true .ptr (.t 3) (.c .nilp))]
 (.cond (.t 4) (sr [A1 2 (.mv (cI 0))]
 (.ret)) (.skip)))
 (sr [mt 5 0,
  A1 6 (.nilc (.t 5)),
  A1 7 (.fadr 0 (.t 6)),
  A1 8 (.load false 1 (.t 7)),
  A1 9 (.len 2 (.t 8)),
  mt 2 9]
 (.ret))))
def f72:LF:=⟨c72,1,0,10,[.tmp 2]⟩
end Mv
