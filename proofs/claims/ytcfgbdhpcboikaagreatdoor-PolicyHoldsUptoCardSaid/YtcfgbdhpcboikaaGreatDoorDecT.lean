/-
The slow decimals: Shift, shouldRoundUp, RoundedInteger.
-/
import Derived.Test.YtcfgbdhpcboikaaGreatDoorDecS
namespace Go.Proofs.YtcfgbdhpcboikaaGreatDoor
open Go.Lib (hid)
set_option maxHeartbeats 2000000
set_option maxRecDepth 100000
open Go.RowKit
def iV:Nat→Dec.Dc→Dec.Dc
 | 0,s=>s
 | j+1,s=>iV j (Dec.rsh 60 s)
theorem aGL (B k:Nat)(s:Dec.Dc)(w:World)(T:nR w B)(h:aC w B s)(hF:Dec.Fine s)(hn:1≤s.nd)(k1:1≤k)(k2:k<61)(p1:-100000000≤s.dp)(p2:s.dp≤100000000) :
  Calls Tryz.prog 263 #[.pointer (some ⟨B,0,none⟩),.int .i64 k] w (kN B (Dec.lsh k s) w):=by
 have LS:∀u,nR u B→aC u B s→Calls Tryz.prog 288 #[.pointer (some ⟨B,0,none⟩),.int .u64 k] u (kN B (Dec.lsh k s) u):=fun u hu hd=>aNW B k s u hu hd hF hn k1 k2 p1 p2
 have c8:=h.nd;have hne:((s.nd:Int)==0)=false:=beq_eq_false_iff_ne.2 (by omega);have kp:(0:Int)<k:=by omega
 have k60:¬(60:Int)<k:=by omega
 have H:=hid h;have HT:=hid T;have HLS:=hid LS;clear h T LS hF;go_enter Tryz.func263,Tryz.ntmps263
 go_wp2_with fail
 go_loopw [1] (fun v wr=>v=.int .i64 (k:Int)∧wr=w) (fun _ _=>0)
 case atStart=>exact⟨rfl,rfl⟩
 case round =>
  obtain⟨rfl,rfl⟩:=hrel;go_wp2_with fail
  refine(HLS.out _ HT.out H.out).mono ?_;rintro e w' ⟨rfl,hd,hk⟩;have HD:=hid hd;have HK:=hid hk;clear hd hk;go_wp2
  go_end0
  exact⟨rfl,HD.out,HK.out⟩
theorem aHq (j:Nat):∀(s:Dec.Dc),Dec.Fine s→1≤s.nd→Dec.Fine (iV j s)∧1≤(iV j s).nd∧(iV j s).dp≤s.dp∧s.dp-820*j≤(iV j s).dp:=by
 induction j with
 | zero=>intro s h hn;exact⟨h,hn,Int.le_refl _,by show s.dp-820*0≤s.dp;omega⟩
 | succ j ih =>
  intro s h hn;obtain⟨a,b,c,d,_,_⟩:=Dec.rsh_fine 60 s (by decide) (by decide) h hn;obtain⟨e,f,g,i⟩:=ih _ a b;exact⟨e,f,Int.le_trans g c,by show s.dp-820*((j+1:Nat):Int)≤(iV j (Dec.rsh 60 s)).dp;omega⟩
theorem aGM (B j k:Nat)(s:Dec.Dc)(w:World)(h:aC w B s)(hF:Dec.Fine s)(hn:1≤s.nd)(k1:1≤k)(k2:k<61)(hj:j≤10000)(p1:-50000000≤s.dp)(p2:s.dp≤100000000) :
  Calls Tryz.prog 263 #[.pointer (some ⟨B,0,none⟩),.int .i64 (-((60*j+k:Nat):Int))] w (kN B (Dec.rsh k (iV j s)) w):=by
 obtain⟨n,hnn⟩:∃n:Int,n=-((60*j+k:Nat):Int):=⟨_,rfl⟩
 rw[←hnn];have c8:=h.nd;have hne:((s.nd:Int)==0)=false:=beq_eq_false_iff_ne.2 (by omega);have kn:¬(0:Int)<n:=by omega
 have kn2:n<0:=by omega
 have H:=hid h;have HN:=hid hnn;have HF:=hid hF;clear h hF hnn;go_enter Tryz.func263,Tryz.ntmps263
 go_wp2_with fail
 go_loopw [1] (fun v wr=>∃(i:Nat) (t:Dec.Dc),v=.int .i64 (-((60*i+k:Nat):Int))∧i≤j∧iV i t=iV j s∧Dec.Fine t∧1≤t.nd∧t.dp≤s.dp∧s.dp-820*(j-i:Nat)≤t.dp∧aC wr B t∧aD (· = B) w wr) (fun v _=>(-(intOf v)).toNat)
 case atStart=>exact⟨j,s,by rw[HN.out],Nat.le_refl _,rfl,HF.out,hn,Int.le_refl _,by omega,H.out,aD.refl _ _⟩
 case round =>
  obtain⟨i,t,hv,hi,ht,hT,hn1,hd1,hd2,hD,hK⟩:=hrel;have HD:=hid hD;have HK:=hid hK;have HT:=hid hT;have HI:=hid ht;cases i with
  | zero =>
   obtain rfl:=(show _=Value.int .i64 (-(k:Int))from hv.trans (congrArg (Value.int .i64) (by omega)))
   have kk:¬(-(k:Int) < -60):=by omega
   have RS:∀u,aC u B t→Calls Tryz.prog 289 #[.pointer (some ⟨B,0,none⟩),.int .u64 k] u (kN B (Dec.rsh k t) u):=fun u hd=>aGJ B k t u hd hT hn1 k1 k2 (by omega) (by omega)
   have HRS:=hid RS;clear hv ht hT hD hK RS;go_wp2_with fail
   refine(HRS.out _ HD.out).mono ?_;rintro e w' ⟨rfl,hd,hk⟩;have HD':=hid hd;have HK':=hid hk;clear hd hk;go_wp2
   go_end0
   refine⟨rfl,?_,HK.out.trans HK'.out⟩;rw[←HI.out];exact HD'.out
  | succ i =>
   obtain⟨m,hm⟩:∃m:Int,m=-((60*(i+1)+k:Nat):Int):=⟨_,rfl⟩
   rw[←hm]at hv
   subst hv;have kk:m < -60:=by omega
   have km:-1000000≤m:=by omega
   have HM:=hid hm;have RS:∀u,aC u B t→Calls Tryz.prog 289 #[.pointer (some ⟨B,0,none⟩),.int .u64 60] u (kN B (Dec.rsh 60 t) u):=fun u hd=>aGJ B 60 t u hd hT hn1 (by decide) (by decide) (by omega) (by omega)
   have HRS:=hid RS;obtain⟨q1,q2,q3,q4,_,_⟩:=Dec.rsh_fine 60 t (by decide) (by decide) hT hn1;have Q1:=hid q1;have Q3:=hid (Int.le_trans q3 hd1);have Q4:Hid (s.dp-820*(j-i:Nat)≤(Dec.rsh 60 t).dp):=by show _≤_;omega
   have Q2:=hid q2;clear ht hT hD hK RS hm q1 q2 q3 q4;go_wp2_with fail
   refine(HRS.out _ HD.out).mono ?_;rintro e w' ⟨rfl,hd,hk⟩;have HD':=hid hd;have HK':=hid hk;clear hd hk;go_wp2
   go_roundw
   case measure=>(simp[intOf];try omega)
   case rel=>exact⟨i,Dec.rsh 60 t,congrArg (Value.int .i64) (by have:=HM.out;omega),by omega,HI.out,Q1.out,Q2.out,Q3.out,Q4.out,HD'.out,HK.out.trans HK'.out⟩
open Go.RowKit
def dig (s:Dec.Dc)(i:Nat):Nat:=(s.D.getD i 48).toNat
theorem aC.dig {w:World}{B:Nat}{s:Dec.Dc}(h:aC w B s)(i:Nat)(hi:i<800):w.cell? ⟨B,i,none⟩=some (.int .u8 (Go.Proofs.YtcfgbdhpcboikaaGreatDoor.dig s i:Nat)):=by
 have hl:i<s.D.length:=by rw[h.len];exact hi
 rw[h.byte i hl];unfold Go.Proofs.YtcfgbdhpcboikaaGreatDoor.dig;rw[List.getD_eq_getElem?_getD,List.getElem?_eq_getElem hl];rfl
def upD (s:Dec.Dc):Bool :=
 if s.dp<0∨(s.nd:Int)≤s.dp then false
 else if dig s s.dp.toNat=53∧s.dp.toNat+1=s.nd then s.trunc||(decide (0<s.dp.toNat)&&decide ((dig s (s.dp.toNat-1)-48)%2≠0))
 else decide (53≤dig s s.dp.toNat)
theorem aEd (s:Dec.Dc)(hF:Dec.Fine s)(i:Nat)(hi:i<s.nd):48≤dig s i∧dig s i≤57:=by
 have hl:i<s.D.length:=by have:=hF.len;have:=hF.le;omega
 have:=hF.dig s.D[i] (List.mem_take_iff_getElem.2 ⟨i,by omega,rfl⟩);unfold dig;rw[List.getD_eq_getElem?_getD,List.getElem?_eq_getElem hl];exact this
theorem aQl (B:Nat)(s:Dec.Dc)(w:World)(h:aC w B s)(hF:Dec.Fine s)(p1:-100000000≤s.dp)(p2:s.dp≤100000000) :
  Calls Tryz.prog 290 #[.pointer (some ⟨B,0,none⟩),.int .i64 s.dp] w fun e w'=>e=.returned (.bool (upD s))∧w=w':=by
 have hnd:=hF.le;have c800:=h.nd;have c803:=h.trunc;have fd:=aEd s hF;have H:=hid h;obtain⟨nd,hN⟩:∃nd,s.nd=nd:=⟨_,rfl⟩
 obtain⟨tr,hT⟩:∃tr,s.trunc=tr:=⟨_,rfl⟩
 have u0:upD s=if s.dp<0∨(s.nd:Int)≤s.dp then false
  else if dig s s.dp.toNat=53∧s.dp.toNat+1=s.nd then s.trunc||(decide (0<s.dp.toNat)&&decide ((dig s (s.dp.toNat-1)-48)%2≠0))
  else decide (53≤dig s s.dp.toNat):=rfl
 by_cases h1:s.dp<0
 ·rw[if_pos (.inl h1)]at u0
  rw[u0];clear fd hF h u0;go_enter Tryz.func290,Tryz.ntmps290
  go_wp2
  go_ret;exact⟨rfl,rfl⟩
 ·by_cases h2:(s.nd:Int)≤s.dp
  ·rw[if_pos (.inr h2)]at u0
   rw[u0];clear fd hF h u0 hN hT;go_enter Tryz.func290,Tryz.ntmps290
   go_wp2
   go_ret;exact⟨rfl,rfl⟩
  ·rw[if_neg (by omega)]at u0
   obtain⟨i,hi⟩:∃i:Nat,s.dp=(i:Int):=⟨s.dp.toNat,by omega⟩
   rw[hi,Int.toNat_natCast,hN,hT]at u0
   rw[hi];rw[hN]at c800
   rw[hT]at c803
   have hin:i<nd:=by omega
   have hi8:i<800:=by omega
   have ci:=h.dig i hi8;obtain⟨C,hC⟩:∃C,dig s i=C:=⟨_,rfl⟩
   rw[hC]at ci u0
   have cb:=fd i (by omega);rw[hC]at cb
   obtain⟨cb1,cb2⟩:=cb;by_cases h5:C=53
   ·subst h5;by_cases hl:i+1=nd
    ·rw[if_pos ⟨rfl,hl⟩]at u0
     have el:((i:Int)+1==nd)=true:=beq_iff_eq.2 (by omega);cases tr with
     | true =>
      rw[Bool.true_or]at u0
      rw[u0];clear fd hF h u0 hN hT hi hC h1 h2 hl;go_enter Tryz.func290,Tryz.ntmps290
      go_wp2
      go_ret;exact⟨rfl,rfl⟩
     | false =>
      rw[Bool.false_or]at u0
      cases i with
      | zero =>
       rw[show(decide (0<0)&&decide ((dig s (0-1)-48)%2≠0))=false by simp]at u0
       rw[u0];have ci':w.cell? ⟨B,0,none⟩=some (.int .u8 53):=ci;have el':((0:Int)+1==nd)=true:=el;clear fd hF h u0 hN hT hi hC h1 h2 hl ci el;have el2:((1:Int)==nd)=true:=by simpa using el'
       go_enter Tryz.func290,Tryz.ntmps290
       go_wp2
       go_ret;exact⟨rfl,rfl⟩
      | succ i =>
       have cj:=h.dig i (by omega);have cd:=fd i (by omega);obtain⟨d,hd⟩:∃d,dig s i-48=d:=⟨_,rfl⟩
       rw[show dig s i=d+48 by omega]at cj
       have cj':w.cell? ⟨B,i,none⟩=some (.int .u8 ((d:Int)+48)):=by rw[cj];rfl
       have d9:d≤9:=by omega
       rw[show(decide (0<i+1)&&decide ((dig s (i+1-1)-48)%2≠0))=decide (d%2≠0) by rw[show i+1-1=i by omega,hd];simp]at u0
       rw[u0];have ci':w.cell? ⟨B,i+1,none⟩=some (.int .u8 53):=ci;have c0:(0:Int)<(i:Int)+1:=by omega
       have el':((i:Int)+1+1==nd)=true:=by rw[←el];rfl
       have HU:Hid ((((d:Int)%2 !=0))=decide (d%2≠0)):=by
        show _=_;by_cases g:d%2=0
        ·have e1:(((d:Int)%2 !=0))=false:=bne_eq_false_iff_eq.2 (by omega);rw[e1];simp[g]
        ·have e1:(((d:Int)%2 !=0))=true:=bne_iff_ne.2 (by omega);rw[e1];simp[g]
       clear fd hF h u0 hN hT hi hC h1 h2 hl ci el cj cd hd;rw[show((i+1:Nat):Int)=(i:Int)+1 by omega];go_enter Tryz.func290,Tryz.ntmps290
       go_wp2
       go_ret;exact⟨vT HU.out,by trivial⟩
    ·have el:((i:Int)+1==nd)=false:=beq_eq_false_iff_ne.2 (by omega);rw[if_neg (fun g=>hl g.2)]at u0
     rw[u0];clear fd hF h u0 hN hT hi hC h1 h2 hl;go_enter Tryz.func290,Tryz.ntmps290
     go_wp2
     go_ret;exact⟨rfl,rfl⟩
   ·rw[if_neg (fun g=>h5 g.1)]at u0
    have e5:((C:Int)==53)=false:=beq_eq_false_iff_ne.2 (by omega);by_cases hge:53≤C
    ·rw[decide_eq_true hge]at u0
     rw[u0];have hge':(53:Int)≤C:=by omega
     clear fd hF h u0 hN hT hi hC h1 h2 h5 hge;go_enter Tryz.func290,Tryz.ntmps290
     go_wp2
     go_ret;first|exact⟨rfl,rfl⟩|exact⟨by simp,by trivial⟩
    ·rw[decide_eq_false hge]at u0
     rw[u0];have hge':¬(53:Int)≤C:=by omega
     clear fd hF h u0 hN hT hi hC h1 h2 h5 hge;go_enter Tryz.func290,Tryz.ntmps290
     go_wp2
     go_ret;first|exact⟨rfl,rfl⟩|exact⟨by simp,by trivial⟩
theorem nI {a b:Int}(h:a=b):Ending.returned (.int .u64 a)=.returned (.int .u64 b):=by rw[h]
def gX (s:Dec.Dc):Nat→Nat
 | 0=>0
 | i+1=>if i<s.nd then (gX s i*10+(dig s i-48))%18446744073709551616 else gX s i*10%18446744073709551616
theorem zB (s:Dec.Dc)(i:Nat):gX s i<18446744073709551616:=by
 cases i with
 | zero=>show 0<_;omega
 | succ i=>unfold gX;split<;>exact Nat.mod_lt _ (by decide)
def qP (s:Dec.Dc):Nat :=
 if 20<s.dp then 18446744073709551615 else if upD s then (gX s s.dp.toNat+1)%18446744073709551616 else gX s s.dp.toNat
theorem aMf (B:Nat)(s:Dec.Dc)(w:World)(h:aC w B s)(hF:Dec.Fine s)(p1:-100000000≤s.dp)(p2:s.dp≤100000000) :
  Calls Tryz.prog 278 #[.pointer (some ⟨B,0,none⟩)] w fun e w'=>e=.returned (.int .u64 (qP s:Nat))∧w=w':=by
 have hnd:=hF.le;have c800:=h.nd;have c801:=h.dp;have fd:=aEd s hF;have UP:∀u,aC u B s→Calls Tryz.prog 290 #[.pointer (some ⟨B,0,none⟩),.int .i64 s.dp] u fun e w'=>e=.returned (.bool (upD s))∧u=w':=fun u hu=>aQl B s u hu hF p1 p2
 have H:=hid h;have HFD:=hid fd;have HUP:=hid UP;have r0:qP s=if 20<s.dp then 18446744073709551615 else if upD s then (gX s s.dp.toNat+1)%18446744073709551616 else gX s s.dp.toNat:=rfl
 clear h fd UP hF;by_cases h20:20<s.dp
 ·rw[if_pos h20]at r0
  have HR:=hid r0;clear r0;go_enter Tryz.func278,Tryz.ntmps278
  go_wp2
  go_ret;exact⟨by rw[HR.out];rfl,rfl⟩
 ·rw[if_neg h20]at r0
  obtain⟨up,hup⟩:∃up,upD s=up:=⟨_,rfl⟩
  rw[hup]at r0
  have HUB:=hid hup;have HR:=hid r0;clear r0 hup;go_enter Tryz.func278,Tryz.ntmps278
  go_wp2_with fail
  go_loop [3,4] (fun iv nv=>∃i:Nat,i≤s.dp.toNat∧iv=.int .i64 (i:Int)∧nv=.int .u64 (gX s i:Nat)) (fun iv _=>30-(intOf iv).toNat)
  case atStart=>exact⟨0,Nat.zero_le _,rfl,rfl⟩
  case round =>
   obtain⟨i,hi,rfl,rfl⟩:=hrel;by_cases hd:(i:Int)<s.dp∧i<s.nd
   ·obtain⟨hd,hin⟩:=hd;have hi8:i<800:=by omega
    have ci:=H.out.dig i hi8;have cd:=HFD.out i hin;obtain⟨d,hdd⟩:∃d,dig s i-48=d:=⟨_,rfl⟩
    rw[show dig s i=d+48 by omega]at ci
    have cj':w.cell? ⟨B,i,none⟩=some (.int .u8 ((d:Int)+48)):=by rw[ci];rfl
    have d9:d≤9:=by omega
    obtain⟨A,hA⟩:∃A,gX s i=A:=⟨_,rfl⟩
    have hA64:=zB s i;obtain⟨M,hM⟩:∃M,A*10%18446744073709551616=M:=⟨_,rfl⟩
    obtain⟨A',hA'⟩:∃A',gX s (i+1)=A':=⟨_,rfl⟩
    have ha:gX s (i+1)=if i<s.nd then (gX s i*10+(dig s i-48))%18446744073709551616 else gX s i*10%18446744073709551616:=rfl
    rw[if_pos hin,hA,hdd,hA']at ha
    have e1:IntKind.u64.wrap ((A:Int)*10)=(M:Int):=by rw[iY];omega
    have e2:IntKind.u64.wrap ((M:Int)+d)=(A':Int):=by rw[iY];omega
    have HA':=hid hA';have i21:i≤20:=by omega
    have hi2:i+1≤s.dp.toNat:=by omega
    rw[hA];clear ci cd hdd hA hA64 hM hA' ha;go_wp2
    go_round
    case measure=>(simp[intOf];try omega)
    case rel=>exact⟨i+1,hi2,by go_num,by rw[HA'.out]⟩
   ·have hx:¬((i:Int)<s.dp)∨((i:Int)<s.dp∧¬(i<s.nd)):=by omega
    have HI:=hid hi;obtain⟨A0,hA0⟩:∃A0,gX s i=A0:=⟨_,rfl⟩
    have HA0:=hid hA0;rw[hA0];clear hd hi hA0;rcases hx with hx|⟨hx,hx2⟩
    all_goals
     go_wp2_with fail
     go_loop [3,4] (fun iv nv=>∃i:Nat,i≤s.dp.toNat∧iv=.int .i64 (i:Int)∧nv=.int .u64 (gX s i:Nat)∧((i:Int)<s.dp→¬i<s.nd)) (fun iv _=>30-(intOf iv).toNat)
     case atStart=>exact⟨i,HI.out,rfl,by rw[HA0.out],by first|exact fun _=>hx2|(intro g;omega)⟩
     case round =>
      obtain⟨i2,hi2,rfl,rfl,hc⟩:=hrel;by_cases hd:(i2:Int)<s.dp
      ·have hin:=hc hd;obtain⟨A,hA⟩:∃A,gX s i2=A:=⟨_,rfl⟩
       have hA64:=zB s i2;obtain⟨A',hA'⟩:∃A',gX s (i2+1)=A':=⟨_,rfl⟩
       have ha:gX s (i2+1)=if i2<s.nd then (gX s i2*10+(dig s i2-48))%18446744073709551616 else gX s i2*10%18446744073709551616:=rfl
       rw[if_neg hin,hA,hA']at ha
       have e1:IntKind.u64.wrap ((A:Int)*10)=(A':Int):=by rw[iY];omega
       have HA':=hid hA';have i21:i2≤20:=by omega
       have hi3:i2+1≤s.dp.toNat:=by omega
       rw[hA];clear hA hA64 hA' ha hc hi2;go_wp2
       go_round
       case measure=>(simp[intOf];try omega)
       case rel=>exact⟨i2+1,hi3,by go_num,by rw[HA'.out],fun _=>by omega⟩
      ·have he:i2=s.dp.toNat:=by omega
       have HE:=hid he;obtain⟨A,hA⟩:∃A,gX s i2=A:=⟨_,rfl⟩
       have hA64:=zB s i2;obtain⟨A1,hA1⟩:∃A1,(A+1)%18446744073709551616=A1:=⟨_,rfl⟩
       rw[hA]at hA64
       have e1:IntKind.u64.wrap ((A:Int)+1)=(A1:Int):=by rw[iY];omega
       have HA:=hid hA;have HA1:=hid hA1;rw[hA];clear hA hA64 hA1 he hc hi2;go_wp2_with fail
       refine(HUP.out _ H.out).mono ?_;rintro e w' ⟨rfl,rfl⟩;have hb:=HUB.out;rw[hb];clear hb;cases up
       ·go_wp2
        go_ret;have hr:=HR.out;simp only[Bool.false_eq_true,if_false]at hr;rw[←HE.out,HA.out]at hr
        exact⟨nI (by rw[hr]),rfl⟩
       ·go_wp2
        go_ret;have hr:=HR.out;simp only[if_true]at hr;rw[←HE.out,HA.out,HA1.out]at hr
        exact⟨nI (by rw[hr]),rfl⟩
open Go.RowKit
def Exit.once (c:Code)(P:Program)(Q:Exit→Act→World→Prop):Exit→Act→World→Prop
 | .goto l,a,w=>∃rest,findLabel c l=some rest∧rest.wp P (Exit.noGoto Q) a w
 | e,a,w=>Q e a w
theorem wJ {P:Program}{a:Act}{w:World}{Q:Exit→Act→World→Prop}{c:Code}(h:c.wp P (Exit.once c P Q) a w):(Code.scope c).wp P Q a w:=by
 intro b k cs;obtain⟨e,a₁,w₁,hq,harr⟩:=h b (.inScope c :: k) cs;cases e with
 | normal=>exact⟨.normal,a₁,w₁,hq,.head step_scope (Steps.trans harr (.one step_inScope))⟩
 | exit id=>exact⟨.exit id,a₁,w₁,hq,fun k' hk=>.head step_scope (harr k' (by simp[exitTo,hk]))⟩
 | goto l =>
  obtain⟨rest,hf,hr⟩:=hq;have hg:gotoIn l (.inScope c :: k)=some (.code rest :: .inScope c :: k):=by simp[gotoIn,hf]
  obtain⟨e₂,a₂,w₂,hq₂,harr₂⟩:=hr b (.inScope c :: k) cs;cases e₂ with
  | normal=>exact⟨.normal,a₂,w₂,hq₂,Steps.trans (.head step_scope (harr _ hg)) (Steps.trans harr₂ (.one step_inScope))⟩
  | exit id=>exact⟨.exit id,a₂,w₂,hq₂,fun k' hk=>Steps.trans (.head step_scope (harr _ hg)) (harr₂ k' (by simp[exitTo,hk]))⟩
  | goto l=>exact hq₂.elim
  | ret=>exact⟨_,a₂,w₂,hq₂,Arrives.of_steps (.head step_scope (harr _ hg)) harr₂⟩
  | panic ch=>exact⟨_,a₂,w₂,hq₂,Arrives.of_steps (.head step_scope (harr _ hg)) harr₂⟩
  | outgrown=>exact⟨_,a₂,w₂,hq₂,Arrives.of_steps (.head step_scope (harr _ hg)) harr₂⟩
 | ret=>exact⟨_,a₁,w₁,hq,Arrives.of_steps (.one step_scope) harr⟩
 | panic ch=>exact⟨_,a₁,w₁,hq,Arrives.of_steps (.one step_scope) harr⟩
 | outgrown=>exact⟨_,a₁,w₁,hq,Arrives.of_steps (.one step_scope) harr⟩
def pw (d:Nat):Nat:=if 9≤d then 27 else [1,3,6,9,13,16,19,23,26].getD d 0
theorem qN (d:Nat):1≤pw d∧pw d≤27:=by
 unfold pw;split
 ·omega
 ·have:∀d<9,1≤([1,3,6,9,13,16,19,23,26]:List Nat).getD d 0∧([1,3,6,9,13,16,19,23,26]:List Nat).getD d 0≤27:=by decide
  exact this d (by omega)
theorem aJW (d:Nat)(h:d<9):(([1,3,6,9,13,16,19,23,26]:List Int).getD d 0)=(pw d:Int):=by
 have:∀d<9,(([1,3,6,9,13,16,19,23,26]:List Int).getD d 0)=(pw d:Int):=by decide
 exact this d h
def fQ (s:Dec.Dc):Dec.Dc:=Dec.rsh (pw s.dp.toNat) s
def aAX:Nat→Dec.Dc→Prop
 | 0,s=>¬ 0<s.dp
 | r+1,s=>0<s.dp∧aAX r (fQ s)
def eO:Nat→Dec.Dc→Int→Dec.Dc × Int
 | 0,s,e=>(s,e)
 | r+1,s,e=>eO r (fQ s) (e+pw s.dp.toNat)
theorem aQA (μ : Nat):∀(s:Dec.Dc),Dec.Fine s→1≤s.nd→s.top<10→s.dp.toNat*10+s.top≤μ → ∃r,r≤μ + 1∧aAX r s:=by
 induction μ using Nat.strongRecOn with
 | _ μ ih =>
  intro s hF hn ht hμ;by_cases h:0<s.dp
  ·obtain⟨b1,b2⟩:=qN s.dp.toNat;obtain⟨q1,q2,q3,_,q5,q6⟩:=Dec.rsh_fine (pw s.dp.toNat) s b1 (by omega) hF hn;have hlt:(fQ s).dp.toNat*10+(fQ s).top<s.dp.toNat*10+s.top:=by
    unfold fQ;by_cases he:(Dec.rsh (pw s.dp.toNat) s).dp=s.dp
    ·have:=q5 he;rw[he];omega
    ·have:(Dec.rsh (pw s.dp.toNat) s).dp.toNat+1≤s.dp.toNat:=by omega
     omega
   obtain⟨r,hr,he⟩:=ih _ (Nat.lt_of_lt_of_le hlt hμ) (fQ s) q1 q2 q6 (Nat.le_refl _);exact⟨r+1,by omega,h,he⟩
  ·exact⟨0,by omega,h⟩
def aAz (s:Dec.Dc):Prop:=s.dp<0∨(s.dp=0∧dig s 0<53)
def gD (s:Dec.Dc):Dec.Dc:=Dec.lsh (pw (-s.dp).toNat) s
def aDB:Nat→Dec.Dc→Prop
 | 0,s=>¬aAz s
 | r+1,s=>aAz s∧aDB r (gD s)
def kR:Nat→Dec.Dc→Int→Dec.Dc × Int
 | 0,s,e=>(s,e)
 | r+1,s,e=>kR r (gD s) (e-pw (-s.dp).toNat)
theorem aQB (μ : Nat):∀(s:Dec.Dc),Dec.Fine s→1≤s.nd→s.top<10→(1-s.dp).toNat*10+(9-s.top)≤μ → ∃r,r≤μ + 1∧aDB r s:=by
 induction μ using Nat.strongRecOn with
 | _ μ ih =>
  intro s hF hn ht hμ;by_cases h:aAz s
  ·obtain⟨b1,b2⟩:=qN (-s.dp).toNat;obtain⟨q1,q2,q3,_,q5,q6⟩:=Dec.lsh_fine (pw (-s.dp).toNat) s b1 (by omega) hF hn;have hle:s.dp≤0:=by rcases h with h|h<;>omega
   have hlt:(1-(gD s).dp).toNat*10+(9-(gD s).top)<(1-s.dp).toNat*10+(9-s.top):=by
    unfold gD;by_cases he:(Dec.lsh (pw (-s.dp).toNat) s).dp=s.dp
    ·have:=q5 he;rw[he];omega
    ·omega
   obtain⟨r,hr,he⟩:=ih _ (Nat.lt_of_lt_of_le hlt hμ) (gD s) q1 q2 q6 (Nat.le_refl _);exact⟨r+1,by omega,h,he⟩
  ·exact⟨0,by omega,h⟩
theorem aNC (r:Nat):∀(s:Dec.Dc) (e:Int),aAX r s→Dec.Fine s→1≤s.nd→s.top<10→-1000≤s.dp→s.dp≤400→0≤e →
  Dec.Fine (eO r s e).1∧1≤(eO r s e).1.nd∧(eO r s e).1.top<10∧-1000≤(eO r s e).1.dp∧(eO r s e).1.dp≤0∧0≤(eO r s e).2∧(eO r s e).2≤e+27*r∧(eO r s e).1.neg=s.neg:=by
 induction r with
 | zero=>intro s e hE hF hn ht h1 h2 h3;exact⟨hF,hn,ht,h1,Int.not_lt.1 hE,h3,by show e≤e+27*0;omega,rfl⟩
 | succ r ih =>
  intro s e hE hF hn ht h1 h2 h3;obtain⟨b1,b2⟩:=qN s.dp.toNat;obtain⟨q1,q2,q3,q4,q5,q6⟩:=Dec.rsh_fine (pw s.dp.toNat) s b1 (by omega) hF hn;have hp:0<s.dp:=hE.1;obtain⟨a1,a2,a3,a4,a5,a6,a7,a8⟩:=ih (fQ s) (e+pw s.dp.toNat) hE.2 q1 q2 q6 (by show -1000≤(Dec.rsh (pw s.dp.toNat) s).dp;omega) (by show(Dec.rsh (pw s.dp.toNat) s).dp≤400;omega) (by omega);exact⟨a1,a2,a3,a4,a5,a6,by show(eO r (fQ s) (e+pw s.dp.toNat)).2≤e+27*((r+1:Nat):Int);omega,a8⟩
def jT (m x:Int)(neg:Bool):Int :=
 if neg then bits .or .u64 (bits .or .u64 (bits .and .u64 m 4503599627370495) (IntKind.u64.wrap (IntKind.u64.wrap (bits .and .i64 x 2047)*4503599627370496))) 9223372036854775808
 else bits .or .u64 (bits .and .u64 m 4503599627370495) (IntKind.u64.wrap (IntKind.u64.wrap (bits .and .i64 x 2047)*4503599627370496))
theorem uG (m x:Int):bits .or .u64 (bits .or .u64 (bits .and .u64 m 4503599627370495) (IntKind.u64.wrap (IntKind.u64.wrap (bits .and .i64 x 2047)*4503599627370496))) 9223372036854775808=jT m x true:=rfl
theorem uF (m x:Int):bits .or .u64 (bits .and .u64 m 4503599627370495) (IntKind.u64.wrap (IntKind.u64.wrap (bits .and .i64 x 2047)*4503599627370496))=jT m x false:=rfl
theorem aJ1 {a b:Int}{c:Bool}(h:a=b):Ending.returned (.tuple #[.int .u64 a,.bool c])=.returned (.tuple #[.int .u64 b,.bool c]):=by rw[h]
theorem mD {r:Int × Bool}{a b:Int}{c:Bool}(h1:r.1=b)(h2:r.2=c)(h:a=b):Ending.returned (.tuple #[.int .u64 a,.bool c])=.returned (.tuple #[.int .u64 r.1,.bool r.2]):=by rw[h1,h2,h]
open Go.RowKit
def wK (B:Nat)(r:Int × Bool)(w:World)(e:Ending)(w':World):Prop:=e=.returned (.tuple #[.int .u64 r.1,.bool r.2])∧aD (· = B) w w'
theorem aPF (B:Nat)(s:Dec.Dc)(w:World)(T:nR w B)(h:aC w B s)(hn:1≤s.nd)(p1:310<s.dp) :
  Calls Tryz.prog 241 #[.pointer (some ⟨B,0,none⟩),.pointer (some ⟨8,0,none⟩)] w (wK B (jT 0 2047 s.neg,true) w):=by
 have c800:=h.nd;have c801:=h.dp;have c802:=h.neg;have i0:=T.info0;have i1:=T.info1;have i2:=T.info2;have hne:((s.nd:Int)==0)=false:=beq_eq_false_iff_ne.2 (by omega);clear h T;go_enter Tryz.func241,Tryz.ntmps241
 go_wp2_with fail
 apply wJ;go_wp2_with fail
 apply wp_goto;refine⟨_,rfl,?_⟩;go_wp2_with fail
 go_quiet (fail)
 go_wp2_with fail
 go_step3
 go_wp2_with fail
 go_quiet (fail)
 cases hng:s.neg
 ·rw[hng]at c802
  go_wp2_with fail
  rw[Exit.noGoto_ret];go_ret2;exact⟨aJ1 (by show _=jT 0 2047 s.neg;rw[hng];exact uF _ _),by first|exact(aD.refl _ w).drewN _|exact((aD.refl _ w).drewN _).drewN _|exact(((aD.refl _ w).drewN _).drewN _).drewN _⟩
 ·rw[hng]at c802
  go_wp2_with fail
  go_quiet (fail)
  go_wp2_with fail
  rw[Exit.noGoto_ret];go_ret2;exact⟨aJ1 (by show _=jT 0 2047 s.neg;rw[hng];exact uG _ _),by first|exact(aD.refl _ w).drewN _|exact((aD.refl _ w).drewN _).drewN _|exact(((aD.refl _ w).drewN _).drewN _).drewN _⟩
end Go.Proofs.YtcfgbdhpcboikaaGreatDoor
