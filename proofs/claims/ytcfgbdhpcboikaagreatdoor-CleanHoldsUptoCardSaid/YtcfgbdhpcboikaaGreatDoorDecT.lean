/-
The slow decimals: Shift, shouldRoundUp, RoundedInteger.
-/
import Derived.Test.YtcfgbdhpcboikaaGreatDoorDecS
namespace Go.Proofs.YtcfgbdhpcboikaaGreatDoor
open Go.Lib (hid)
set_option maxHeartbeats 16000000
set_option maxRecDepth 100000
open Go.RowKit
def iL:Nat→Dec.Dc→Dec.Dc
  | 0,s=>s
  | j+1,s=>iL j (Dec.rsh 60 s)
theorem aE9 (B k:Nat)(s:Dec.Dc)(w:World)(T:nA w B)(h:aE w B s)(hF:Dec.Fine s)(hn:1≤s.nd)(k1:1≤k)(k2:k<61)(p1:-100000000≤s.dp)(p2:s.dp≤100000000) :
    Calls Tryz.prog 263 #[.pointer (some ⟨B,0,none⟩),.int .i64 k] w (kQ B (Dec.lsh k s) w):=by
  have LS:∀u,nA u B→aE u B s→Calls Tryz.prog 288 #[.pointer (some ⟨B,0,none⟩),.int .u64 k] u (kQ B (Dec.lsh k s) u):=fun u hu hd=>aMg B k s u hu hd hF hn k1 k2 p1 p2
  have c8:=h.nd;have hne:((s.nd:Int)==0)=false:=beq_eq_false_iff_ne.2 (by omega);have kp:(0:Int)<k:=by omega
  have k60:¬(60:Int)<k:=by omega
  have H:=hid h;have HT:=hid T;have HLS:=hid LS;clear h T LS hF;go_enter Tryz.func263,Tryz.ntmps263
  go_wp2_with fail
  go_loopw [1] (fun v wr=>v=.int .i64 (k:Int)∧wr=w) (fun _ _=>0)
  case atStart=>exact⟨rfl,rfl⟩
  case round =>
    obtain⟨rfl,rfl⟩:=hrel;go_wp2_with fail
    refine(HLS.out _ HT.out H.out).mono ?_;rintro e w' ⟨rfl,hd,hk⟩;have HD:=hid hd;have HK:=hid hk;clear hd hk;go_wp2
    go_end0
    exact⟨rfl,HD.out,HK.out⟩
theorem aFS (j:Nat):∀(s:Dec.Dc),Dec.Fine s→1≤s.nd→Dec.Fine (iL j s)∧1≤(iL j s).nd∧(iL j s).dp≤s.dp∧s.dp-820*j≤(iL j s).dp:=by
  induction j with
  | zero=>intro s h hn;exact⟨h,hn,Int.le_refl _,by show s.dp-820*0≤s.dp;omega⟩
  | succ j ih =>
    intro s h hn;obtain⟨a,b,c,d,_,_⟩:=Dec.rsh_fine 60 s (by decide) (by decide) h hn;obtain⟨e,f,g,i⟩:=ih _ a b;exact⟨e,f,Int.le_trans g c,by show s.dp-820*((j+1:Nat):Int)≤(iL j (Dec.rsh 60 s)).dp;omega⟩
theorem aE1 (B j k:Nat)(s:Dec.Dc)(w:World)(h:aE w B s)(hF:Dec.Fine s)(hn:1≤s.nd)(k1:1≤k)(k2:k<61)(hj:j≤10000)(p1:-50000000≤s.dp)(p2:s.dp≤100000000) :
    Calls Tryz.prog 263 #[.pointer (some ⟨B,0,none⟩),.int .i64 (-((60*j+k:Nat):Int))] w (kQ B (Dec.rsh k (iL j s)) w):=by
  obtain⟨n,hnn⟩:∃n:Int,n=-((60*j+k:Nat):Int):=⟨_,rfl⟩
  rw[←hnn];have c8:=h.nd;have hne:((s.nd:Int)==0)=false:=beq_eq_false_iff_ne.2 (by omega);have kn:¬(0:Int)<n:=by omega
  have kn2:n<0:=by omega
  have H:=hid h;have HN:=hid hnn;have HF:=hid hF;clear h hF hnn;go_enter Tryz.func263,Tryz.ntmps263
  go_wp2_with fail
  go_loopw [1] (fun v wr=>∃(i:Nat) (t:Dec.Dc),v=.int .i64 (-((60*i+k:Nat):Int))∧i≤j∧iL i t=iL j s∧Dec.Fine t∧1≤t.nd∧t.dp≤s.dp∧s.dp-820*(j-i:Nat)≤t.dp∧aE wr B t∧aG (· = B) w wr) (fun v _=>(-(intOf v)).toNat)
  case atStart=>exact⟨j,s,by rw[HN.out],Nat.le_refl _,rfl,HF.out,hn,Int.le_refl _,by omega,H.out,aG.refl _ _⟩
  case round =>
    obtain⟨i,t,hv,hi,ht,hT,hn1,hd1,hd2,hD,hK⟩:=hrel;have HD:=hid hD;have HK:=hid hK;have HT:=hid hT;have HI:=hid ht;cases i with
    | zero =>
      obtain rfl:=(show _=Value.int .i64 (-(k:Int))from hv.trans (congrArg (Value.int .i64) (by omega)))
      have kk:¬(-(k:Int) < -60):=by omega
      have RS:∀u,aE u B t→Calls Tryz.prog 289 #[.pointer (some ⟨B,0,none⟩),.int .u64 k] u (kQ B (Dec.rsh k t) u):=fun u hd=>aE5 B k t u hd hT hn1 k1 k2 (by omega) (by omega)
      have HRS:=hid RS;clear hv ht hT hD hK RS;go_wp2_with fail
      refine(HRS.out _ HD.out).mono ?_;rintro e w' ⟨rfl,hd,hk⟩;have HD':=hid hd;have HK':=hid hk;clear hd hk;go_wp2
      go_end0
      refine⟨rfl,?_,HK.out.trans HK'.out⟩;rw[←HI.out];exact HD'.out
    | succ i =>
      obtain⟨m,hm⟩:∃m:Int,m=-((60*(i+1)+k:Nat):Int):=⟨_,rfl⟩
      rw[←hm]at hv
      subst hv;have kk:m < -60:=by omega
      have km:-1000000≤m:=by omega
      have HM:=hid hm;have RS:∀u,aE u B t→Calls Tryz.prog 289 #[.pointer (some ⟨B,0,none⟩),.int .u64 60] u (kQ B (Dec.rsh 60 t) u):=fun u hd=>aE5 B 60 t u hd hT hn1 (by decide) (by decide) (by omega) (by omega)
      have HRS:=hid RS;obtain⟨q1,q2,q3,q4,_,_⟩:=Dec.rsh_fine 60 t (by decide) (by decide) hT hn1;have Q1:=hid q1;have Q3:=hid (Int.le_trans q3 hd1);have Q4:Hid (s.dp-820*(j-i:Nat)≤(Dec.rsh 60 t).dp):=by show _≤_;omega
      have Q2:=hid q2;clear ht hT hD hK RS hm q1 q2 q3 q4;go_wp2_with fail
      refine(HRS.out _ HD.out).mono ?_;rintro e w' ⟨rfl,hd,hk⟩;have HD':=hid hd;have HK':=hid hk;clear hd hk;go_wp2
      go_roundw
      case measure=>(simp[intOf];try omega)
      case rel=>exact⟨i,Dec.rsh 60 t,congrArg (Value.int .i64) (by have:=HM.out;omega),by omega,HI.out,Q1.out,Q2.out,Q3.out,Q4.out,HD'.out,HK.out.trans HK'.out⟩
open Go.RowKit
def dig (s:Dec.Dc)(i:Nat):Nat:=(s.D.getD i 48).toNat
theorem aE.dig {w:World}{B:Nat}{s:Dec.Dc}(h:aE w B s)(i:Nat)(hi:i<800):w.cell? ⟨B,i,none⟩=some (.int .u8 (Go.Proofs.YtcfgbdhpcboikaaGreatDoor.dig s i:Nat)):=by
  have hl:i<s.D.length:=by rw[h.len];exact hi
  rw[h.byte i hl];unfold Go.Proofs.YtcfgbdhpcboikaaGreatDoor.dig;rw[List.getD_eq_getElem?_getD,List.getElem?_eq_getElem hl];rfl
def upD (s:Dec.Dc):Bool :=
  if s.dp<0∨(s.nd:Int)≤s.dp then false
  else if dig s s.dp.toNat=53∧s.dp.toNat+1=s.nd then s.trunc||(decide (0<s.dp.toNat)&&decide ((dig s (s.dp.toNat-1)-48)%2≠0))
  else decide (53≤dig s s.dp.toNat)
theorem aDA (s:Dec.Dc)(hF:Dec.Fine s)(i:Nat)(hi:i<s.nd):48≤dig s i∧dig s i≤57:=by
  have hl:i<s.D.length:=by have:=hF.len;have:=hF.le;omega
  have:=hF.dig s.D[i] (List.mem_take_iff_getElem.2 ⟨i,by omega,rfl⟩);unfold dig;rw[List.getD_eq_getElem?_getD,List.getElem?_eq_getElem hl];exact this
theorem aNy (B:Nat)(s:Dec.Dc)(w:World)(h:aE w B s)(hF:Dec.Fine s)(p1:-100000000≤s.dp)(p2:s.dp≤100000000) :
    Calls Tryz.prog 290 #[.pointer (some ⟨B,0,none⟩),.int .i64 s.dp] w fun e w'=>e=.returned (.bool (upD s))∧w=w':=by
  have hnd:=hF.le;have c800:=h.nd;have c803:=h.trunc;have fd:=aDA s hF;have H:=hid h;obtain⟨nd,hN⟩:∃nd,s.nd=nd:=⟨_,rfl⟩
  obtain⟨tr,hT⟩:∃tr,s.trunc=tr:=⟨_,rfl⟩
  have u0:upD s=if s.dp<0∨(s.nd:Int)≤s.dp then false
    else if dig s s.dp.toNat=53∧s.dp.toNat+1=s.nd then s.trunc||(decide (0<s.dp.toNat)&&decide ((dig s (s.dp.toNat-1)-48)%2≠0))
    else decide (53≤dig s s.dp.toNat):=rfl
  by_cases h1:s.dp<0
  · rw[if_pos (.inl h1)]at u0
    rw[u0];clear fd hF h u0;go_enter Tryz.func290,Tryz.ntmps290
    go_wp2
    go_ret;exact⟨rfl,rfl⟩
  · by_cases h2:(s.nd:Int)≤s.dp
    · rw[if_pos (.inr h2)]at u0
      rw[u0];clear fd hF h u0 hN hT;go_enter Tryz.func290,Tryz.ntmps290
      go_wp2
      go_ret;exact⟨rfl,rfl⟩
    · rw[if_neg (by omega)]at u0
      obtain⟨i,hi⟩:∃i:Nat,s.dp=(i:Int):=⟨s.dp.toNat,by omega⟩
      rw[hi,Int.toNat_natCast,hN,hT]at u0
      rw[hi];rw[hN]at c800
      rw[hT]at c803
      have hin:i<nd:=by omega
      have hi8:i<800:=by omega
      have ci:=h.dig i hi8;obtain⟨C,hC⟩:∃C,dig s i=C:=⟨_,rfl⟩
      rw[hC]at ci u0
      have cb:=fd i (by omega);rw[hC]at cb
      obtain⟨cb1,cb2⟩:=cb;by_cases h5:C=53
      · subst h5
        by_cases hl:i+1=nd
        · rw[if_pos ⟨rfl,hl⟩]at u0
          have el:((i:Int)+1==nd)=true:=beq_iff_eq.2 (by omega);cases tr with
          | true =>
            rw[Bool.true_or]at u0
            rw[u0];clear fd hF h u0 hN hT hi hC h1 h2 hl;go_enter Tryz.func290,Tryz.ntmps290
            go_wp2
            go_ret;exact⟨rfl,rfl⟩
          | false =>
            rw[Bool.false_or]at u0
            cases i with
            | zero =>
              rw[show(decide (0<0)&&decide ((dig s (0-1)-48)%2≠0))=false by simp]at u0
              rw[u0];have ci':w.cell? ⟨B,0,none⟩=some (.int .u8 53):=ci;have el':((0:Int)+1==nd)=true:=el;clear fd hF h u0 hN hT hi hC h1 h2 hl ci el;have el2:((1:Int)==nd)=true:=by simpa using el'
              go_enter Tryz.func290,Tryz.ntmps290
              go_wp2
              go_ret;exact⟨rfl,rfl⟩
            | succ i =>
              have cj:=h.dig i (by omega);have cd:=fd i (by omega);obtain⟨d,hd⟩:∃d,dig s i-48=d:=⟨_,rfl⟩
              rw[show dig s i=d+48 by omega]at cj
              have cj':w.cell? ⟨B,i,none⟩=some (.int .u8 ((d:Int)+48)):=by rw[cj];rfl
              have d9:d≤9:=by omega
              rw[show(decide (0<i+1)&&decide ((dig s (i+1-1)-48)%2≠0))=decide (d%2≠0) by rw[show i+1-1=i by omega,hd];simp]at u0
              rw[u0];have ci':w.cell? ⟨B,i+1,none⟩=some (.int .u8 53):=ci;have c0:(0:Int)<(i:Int)+1:=by omega
              have el':((i:Int)+1+1==nd)=true:=by rw[←el];rfl
              have HU:Hid ((((d:Int)%2 !=0))=decide (d%2≠0)):=by
                show _=_;by_cases g:d%2=0
                · have e1:(((d:Int)%2 !=0))=false:=bne_eq_false_iff_eq.2 (by omega)
                  rw[e1];simp[g]
                · have e1:(((d:Int)%2 !=0))=true:=bne_iff_ne.2 (by omega)
                  rw[e1];simp[g]
              clear fd hF h u0 hN hT hi hC h1 h2 hl ci el cj cd hd;rw[show((i+1:Nat):Int)=(i:Int)+1 by omega];go_enter Tryz.func290,Tryz.ntmps290
              go_wp2
              go_ret;exact⟨tK HU.out,by trivial⟩
        · have el:((i:Int)+1==nd)=false:=beq_eq_false_iff_ne.2 (by omega)
          rw[if_neg (fun g=>hl g.2)]at u0
          rw[u0];clear fd hF h u0 hN hT hi hC h1 h2 hl;go_enter Tryz.func290,Tryz.ntmps290
          go_wp2
          go_ret;exact⟨rfl,rfl⟩
      · rw[if_neg (fun g=>h5 g.1)]at u0
        have e5:((C:Int)==53)=false:=beq_eq_false_iff_ne.2 (by omega);by_cases hge:53≤C
        · rw[decide_eq_true hge]at u0
          rw[u0];have hge':(53:Int)≤C:=by omega
          clear fd hF h u0 hN hT hi hC h1 h2 h5 hge;go_enter Tryz.func290,Tryz.ntmps290
          go_wp2
          go_ret;first|exact⟨rfl,rfl⟩|exact⟨by simp,by trivial⟩
        · rw[decide_eq_false hge]at u0
          rw[u0];have hge':¬(53:Int)≤C:=by omega
          clear fd hF h u0 hN hT hi hC h1 h2 h5 hge;go_enter Tryz.func290,Tryz.ntmps290
          go_wp2
          go_ret;first|exact⟨rfl,rfl⟩|exact⟨by simp,by trivial⟩
theorem nX {a b:Int}(h:a=b):Ending.returned (.int .u64 a)=.returned (.int .u64 b):=by rw[h]
def gQ (s:Dec.Dc):Nat→Nat
  | 0=>0
  | i+1=>if i<s.nd then (gQ s i*10+(dig s i-48))%18446744073709551616 else gQ s i*10%18446744073709551616
theorem xL (s:Dec.Dc)(i:Nat):gQ s i<18446744073709551616:=by
  cases i with
  | zero=>show 0<_;omega
  | succ i=>unfold gQ;split<;>exact Nat.mod_lt _ (by decide)
def qH (s:Dec.Dc):Nat :=
  if 20<s.dp then 18446744073709551615 else if upD s then (gQ s s.dp.toNat+1)%18446744073709551616 else gQ s s.dp.toNat
theorem aJf (B:Nat)(s:Dec.Dc)(w:World)(h:aE w B s)(hF:Dec.Fine s)(p1:-100000000≤s.dp)(p2:s.dp≤100000000) :
    Calls Tryz.prog 278 #[.pointer (some ⟨B,0,none⟩)] w fun e w'=>e=.returned (.int .u64 (qH s:Nat))∧w=w':=by
  have hnd:=hF.le;have c800:=h.nd;have c801:=h.dp;have fd:=aDA s hF;have UP:∀u,aE u B s→Calls Tryz.prog 290 #[.pointer (some ⟨B,0,none⟩),.int .i64 s.dp] u fun e w'=>e=.returned (.bool (upD s))∧u=w':=fun u hu=>aNy B s u hu hF p1 p2
  have H:=hid h;have HFD:=hid fd;have HUP:=hid UP;have r0:qH s=if 20<s.dp then 18446744073709551615 else if upD s then (gQ s s.dp.toNat+1)%18446744073709551616 else gQ s s.dp.toNat:=rfl
  clear h fd UP hF;by_cases h20:20<s.dp
  · rw[if_pos h20]at r0
    have HR:=hid r0;clear r0;go_enter Tryz.func278,Tryz.ntmps278
    go_wp2
    go_ret;exact⟨by rw[HR.out];rfl,rfl⟩
  · rw[if_neg h20]at r0
    obtain⟨up,hup⟩:∃up,upD s=up:=⟨_,rfl⟩
    rw[hup]at r0
    have HUB:=hid hup;have HR:=hid r0;clear r0 hup;go_enter Tryz.func278,Tryz.ntmps278
    go_wp2_with fail
    go_loop [3,4] (fun iv nv=>∃i:Nat,i≤s.dp.toNat∧iv=.int .i64 (i:Int)∧nv=.int .u64 (gQ s i:Nat)) (fun iv _=>30-(intOf iv).toNat)
    case atStart=>exact⟨0,Nat.zero_le _,rfl,rfl⟩
    case round =>
      obtain⟨i,hi,rfl,rfl⟩:=hrel;by_cases hd:(i:Int)<s.dp∧i<s.nd
      · obtain⟨hd,hin⟩:=hd
        have hi8:i<800:=by omega
        have ci:=H.out.dig i hi8;have cd:=HFD.out i hin;obtain⟨d,hdd⟩:∃d,dig s i-48=d:=⟨_,rfl⟩
        rw[show dig s i=d+48 by omega]at ci
        have cj':w.cell? ⟨B,i,none⟩=some (.int .u8 ((d:Int)+48)):=by rw[ci];rfl
        have d9:d≤9:=by omega
        obtain⟨A,hA⟩:∃A,gQ s i=A:=⟨_,rfl⟩
        have hA64:=xL s i;obtain⟨M,hM⟩:∃M,A*10%18446744073709551616=M:=⟨_,rfl⟩
        obtain⟨A',hA'⟩:∃A',gQ s (i+1)=A':=⟨_,rfl⟩
        have ha:gQ s (i+1)=if i<s.nd then (gQ s i*10+(dig s i-48))%18446744073709551616 else gQ s i*10%18446744073709551616:=rfl
        rw[if_pos hin,hA,hdd,hA']at ha
        have e1:IntKind.u64.wrap ((A:Int)*10)=(M:Int):=by rw[iJ];omega
        have e2:IntKind.u64.wrap ((M:Int)+d)=(A':Int):=by rw[iJ];omega
        have HA':=hid hA';have i21:i≤20:=by omega
        have hi2:i+1≤s.dp.toNat:=by omega
        rw[hA];clear ci cd hdd hA hA64 hM hA' ha;go_wp2
        go_round
        case measure=>(simp[intOf];try omega)
        case rel=>exact⟨i+1,hi2,by go_num,by rw[HA'.out]⟩
      · have hx:¬((i:Int)<s.dp)∨((i:Int)<s.dp∧¬(i<s.nd)):=by omega
        have HI:=hid hi;obtain⟨A0,hA0⟩:∃A0,gQ s i=A0:=⟨_,rfl⟩
        have HA0:=hid hA0;rw[hA0];clear hd hi hA0;rcases hx with hx|⟨hx,hx2⟩
        all_goals
          go_wp2_with fail
          go_loop [3,4] (fun iv nv=>∃i:Nat,i≤s.dp.toNat∧iv=.int .i64 (i:Int)∧nv=.int .u64 (gQ s i:Nat)∧((i:Int)<s.dp→¬i<s.nd)) (fun iv _=>30-(intOf iv).toNat)
          case atStart=>exact⟨i,HI.out,rfl,by rw[HA0.out],by first|exact fun _=>hx2|(intro g;omega)⟩
          case round =>
            obtain⟨i2,hi2,rfl,rfl,hc⟩:=hrel;by_cases hd:(i2:Int)<s.dp
            · have hin:=hc hd
              obtain⟨A,hA⟩:∃A,gQ s i2=A:=⟨_,rfl⟩
              have hA64:=xL s i2;obtain⟨A',hA'⟩:∃A',gQ s (i2+1)=A':=⟨_,rfl⟩
              have ha:gQ s (i2+1)=if i2<s.nd then (gQ s i2*10+(dig s i2-48))%18446744073709551616 else gQ s i2*10%18446744073709551616:=rfl
              rw[if_neg hin,hA,hA']at ha
              have e1:IntKind.u64.wrap ((A:Int)*10)=(A':Int):=by rw[iJ];omega
              have HA':=hid hA';have i21:i2≤20:=by omega
              have hi3:i2+1≤s.dp.toNat:=by omega
              rw[hA];clear hA hA64 hA' ha hc hi2;go_wp2
              go_round
              case measure=>(simp[intOf];try omega)
              case rel=>exact⟨i2+1,hi3,by go_num,by rw[HA'.out],fun _=>by omega⟩
            · have he:i2=s.dp.toNat:=by omega
              have HE:=hid he;obtain⟨A,hA⟩:∃A,gQ s i2=A:=⟨_,rfl⟩
              have hA64:=xL s i2;obtain⟨A1,hA1⟩:∃A1,(A+1)%18446744073709551616=A1:=⟨_,rfl⟩
              rw[hA]at hA64
              have e1:IntKind.u64.wrap ((A:Int)+1)=(A1:Int):=by rw[iJ];omega
              have HA:=hid hA;have HA1:=hid hA1;rw[hA];clear hA hA64 hA1 he hc hi2;go_wp2_with fail
              refine(HUP.out _ H.out).mono ?_;rintro e w' ⟨rfl,rfl⟩;have hb:=HUB.out;rw[hb];clear hb;cases up
              · go_wp2
                go_ret;have hr:=HR.out;simp only[Bool.false_eq_true,if_false]at hr;rw[←HE.out,HA.out]at hr
                exact⟨nX (by rw[hr]),rfl⟩
              · go_wp2
                go_ret;have hr:=HR.out;simp only[if_true]at hr;rw[←HE.out,HA.out,HA1.out]at hr
                exact⟨nX (by rw[hr]),rfl⟩
open Go.RowKit
def Exit.once (c:Code)(P:Program)(Q:Exit→Act→World→Prop):Exit→Act→World→Prop
  | .goto l,a,w=>∃rest,findLabel c l=some rest∧rest.wp P (Exit.noGoto Q) a w
  | e,a,w=>Q e a w
theorem uY {P:Program}{a:Act}{w:World}{Q:Exit→Act→World→Prop}{c:Code}(h:c.wp P (Exit.once c P Q) a w):(Code.scope c).wp P Q a w:=by
  intro b k cs;obtain⟨e,a₁,w₁,hq,harr⟩:=h b (.inScope c :: k) cs;cases e with
  | normal=>exact⟨.normal,a₁,w₁,hq,.head step_scope (Steps.trans harr (.one step_inScope))⟩
  | exit id=>exact⟨.exit id,a₁,w₁,hq,fun k' hk=>.head step_scope (harr k' (by simp[exitTo,hk]))⟩
  | goto l =>
    obtain⟨rest,hf,hr⟩:=hq;have hg:gotoIn l (.inScope c :: k)=some (.code rest :: .inScope c :: k):=by simp[gotoIn,hf]
    obtain⟨e₂,a₂,w₂,hq₂,harr₂⟩:=hr b (.inScope c :: k) cs;cases e₂ with
    | normal=>exact⟨.normal,a₂,w₂,hq₂,Steps.trans (.head step_scope (harr _ hg)) (Steps.trans harr₂ (.one step_inScope))⟩
    | exit id=>exact⟨.exit id,a₂,w₂,hq₂,fun k' hk=>Steps.trans (.head step_scope (harr _ hg)) (harr₂ k' (by simp[exitTo,hk]))⟩
    | goto l=>exact hq₂.elim
    | ret=>exact⟨_,a₂,w₂,hq₂,Arrives.of_steps (.head step_scope (harr _ hg)) harr₂⟩
    | panic ch=>exact⟨_,a₂,w₂,hq₂,Arrives.of_steps (.head step_scope (harr _ hg)) harr₂⟩
    | outgrown=>exact⟨_,a₂,w₂,hq₂,Arrives.of_steps (.head step_scope (harr _ hg)) harr₂⟩
  | ret=>exact⟨_,a₁,w₁,hq,Arrives.of_steps (.one step_scope) harr⟩
  | panic ch=>exact⟨_,a₁,w₁,hq,Arrives.of_steps (.one step_scope) harr⟩
  | outgrown=>exact⟨_,a₁,w₁,hq,Arrives.of_steps (.one step_scope) harr⟩
def pw (d:Nat):Nat:=if 9≤d then 27 else [1,3,6,9,13,16,19,23,26].getD d 0
theorem qE (d:Nat):1≤pw d∧pw d≤27:=by
  unfold pw;split
  · omega
  · have:∀d<9,1≤([1,3,6,9,13,16,19,23,26]:List Nat).getD d 0∧([1,3,6,9,13,16,19,23,26]:List Nat).getD d 0≤27:=by decide
    exact this d (by omega)
theorem aHo (d:Nat)(h:d<9):(([1,3,6,9,13,16,19,23,26]:List Int).getD d 0)=(pw d:Int):=by
  have:∀d<9,(([1,3,6,9,13,16,19,23,26]:List Int).getD d 0)=(pw d:Int):=by decide
  exact this d h
def fN (s:Dec.Dc):Dec.Dc:=Dec.rsh (pw s.dp.toNat) s
def aAM:Nat→Dec.Dc→Prop
  | 0,s=>¬ 0<s.dp
  | r+1,s=>0<s.dp∧aAM r (fN s)
def fA:Nat→Dec.Dc→Int→Dec.Dc × Int
  | 0,s,e=>(s,e)
  | r+1,s,e=>fA r (fN s) (e+pw s.dp.toNat)
theorem aOA (μ : Nat):∀(s:Dec.Dc),Dec.Fine s→1≤s.nd→s.top<10→s.dp.toNat*10+s.top≤μ → ∃r,r≤μ + 1∧aAM r s:=by
  induction μ using Nat.strongRecOn with
  | _ μ ih =>
    intro s hF hn ht hμ;by_cases h:0<s.dp
    · obtain⟨b1,b2⟩:=qE s.dp.toNat
      obtain⟨q1,q2,q3,_,q5,q6⟩:=Dec.rsh_fine (pw s.dp.toNat) s b1 (by omega) hF hn;have hlt:(fN s).dp.toNat*10+(fN s).top<s.dp.toNat*10+s.top:=by
        unfold fN;by_cases he:(Dec.rsh (pw s.dp.toNat) s).dp=s.dp
        · have:=q5 he
          rw[he];omega
        · have:(Dec.rsh (pw s.dp.toNat) s).dp.toNat+1≤s.dp.toNat:=by omega
          omega
      obtain⟨r,hr,he⟩:=ih _ (Nat.lt_of_lt_of_le hlt hμ) (fN s) q1 q2 q6 (Nat.le_refl _);exact⟨r+1,by omega,h,he⟩
    · exact⟨0,by omega,h⟩
def zM (s:Dec.Dc):Prop:=s.dp<0∨(s.dp=0∧dig s 0<53)
def gB (s:Dec.Dc):Dec.Dc:=Dec.lsh (pw (-s.dp).toNat) s
def aC6:Nat→Dec.Dc→Prop
  | 0,s=>¬zM s
  | r+1,s=>zM s∧aC6 r (gB s)
def kR:Nat→Dec.Dc→Int→Dec.Dc × Int
  | 0,s,e=>(s,e)
  | r+1,s,e=>kR r (gB s) (e-pw (-s.dp).toNat)
theorem aOx (μ : Nat):∀(s:Dec.Dc),Dec.Fine s→1≤s.nd→s.top<10→(1-s.dp).toNat*10+(9-s.top)≤μ → ∃r,r≤μ + 1∧aC6 r s:=by
  induction μ using Nat.strongRecOn with
  | _ μ ih =>
    intro s hF hn ht hμ;by_cases h:zM s
    · obtain⟨b1,b2⟩:=qE (-s.dp).toNat
      obtain⟨q1,q2,q3,_,q5,q6⟩:=Dec.lsh_fine (pw (-s.dp).toNat) s b1 (by omega) hF hn;have hle:s.dp≤0:=by rcases h with h|h<;>omega
      have hlt:(1-(gB s).dp).toNat*10+(9-(gB s).top)<(1-s.dp).toNat*10+(9-s.top):=by
        unfold gB;by_cases he:(Dec.lsh (pw (-s.dp).toNat) s).dp=s.dp
        · have:=q5 he
          rw[he];omega
        · omega
      obtain⟨r,hr,he⟩:=ih _ (Nat.lt_of_lt_of_le hlt hμ) (gB s) q1 q2 q6 (Nat.le_refl _);exact⟨r+1,by omega,h,he⟩
    · exact⟨0,by omega,h⟩
theorem aMq (r:Nat):∀(s:Dec.Dc) (e:Int),aAM r s→Dec.Fine s→1≤s.nd→s.top<10→-1000≤s.dp→s.dp≤400→0≤e →
    Dec.Fine (fA r s e).1∧1≤(fA r s e).1.nd∧(fA r s e).1.top<10∧-1000≤(fA r s e).1.dp∧(fA r s e).1.dp≤0∧0≤(fA r s e).2∧(fA r s e).2≤e+27*r∧(fA r s e).1.neg=s.neg:=by
  induction r with
  | zero=>intro s e hE hF hn ht h1 h2 h3;exact⟨hF,hn,ht,h1,Int.not_lt.1 hE,h3,by show e≤e+27*0;omega,rfl⟩
  | succ r ih =>
    intro s e hE hF hn ht h1 h2 h3;obtain⟨b1,b2⟩:=qE s.dp.toNat;obtain⟨q1,q2,q3,q4,q5,q6⟩:=Dec.rsh_fine (pw s.dp.toNat) s b1 (by omega) hF hn;have hp:0<s.dp:=hE.1;obtain⟨a1,a2,a3,a4,a5,a6,a7,a8⟩:=ih (fN s) (e+pw s.dp.toNat) hE.2 q1 q2 q6 (by show -1000≤(Dec.rsh (pw s.dp.toNat) s).dp;omega) (by show(Dec.rsh (pw s.dp.toNat) s).dp≤400;omega) (by omega);exact⟨a1,a2,a3,a4,a5,a6,by show(fA r (fN s) (e+pw s.dp.toNat)).2≤e+27*((r+1:Nat):Int);omega,a8⟩
def jV (m x:Int)(neg:Bool):Int :=
  if neg then bits .or .u64 (bits .or .u64 (bits .and .u64 m 4503599627370495) (IntKind.u64.wrap (IntKind.u64.wrap (bits .and .i64 x 2047)*4503599627370496))) 9223372036854775808
  else bits .or .u64 (bits .and .u64 m 4503599627370495) (IntKind.u64.wrap (IntKind.u64.wrap (bits .and .i64 x 2047)*4503599627370496))
theorem tA (m x:Int):bits .or .u64 (bits .or .u64 (bits .and .u64 m 4503599627370495) (IntKind.u64.wrap (IntKind.u64.wrap (bits .and .i64 x 2047)*4503599627370496))) 9223372036854775808=jV m x true:=rfl
theorem sR (m x:Int):bits .or .u64 (bits .and .u64 m 4503599627370495) (IntKind.u64.wrap (IntKind.u64.wrap (bits .and .i64 x 2047)*4503599627370496))=jV m x false:=rfl
theorem aGR {a b:Int}{c:Bool}(h:a=b):Ending.returned (.tuple #[.int .u64 a,.bool c])=.returned (.tuple #[.int .u64 b,.bool c]):=by rw[h]
theorem lP {r:Int × Bool}{a b:Int}{c:Bool}(h1:r.1=b)(h2:r.2=c)(h:a=b):Ending.returned (.tuple #[.int .u64 a,.bool c])=.returned (.tuple #[.int .u64 r.1,.bool r.2]):=by rw[h1,h2,h]
open Go.RowKit
def wS (B:Nat)(r:Int × Bool)(w:World)(e:Ending)(w':World):Prop:=e=.returned (.tuple #[.int .u64 r.1,.bool r.2])∧aG (· = B) w w'
theorem aNU (B:Nat)(s:Dec.Dc)(w:World)(T:nA w B)(h:aE w B s)(hn:1≤s.nd)(p1:310<s.dp) :
    Calls Tryz.prog 241 #[.pointer (some ⟨B,0,none⟩),.pointer (some ⟨8,0,none⟩)] w (wS B (jV 0 2047 s.neg,true) w):=by
  have c800:=h.nd;have c801:=h.dp;have c802:=h.neg;have i0:=T.info0;have i1:=T.info1;have i2:=T.info2;have hne:((s.nd:Int)==0)=false:=beq_eq_false_iff_ne.2 (by omega);clear h T;go_enter Tryz.func241,Tryz.ntmps241
  go_wp2_with fail
  apply uY;go_wp2_with fail
  apply wp_goto;refine⟨_,rfl,?_⟩;go_wp2_with fail
  go_quiet (fail)
  go_wp2_with fail
  go_step3
  go_wp2_with fail
  go_quiet (fail)
  cases hng:s.neg
  · rw[hng]at c802
    go_wp2_with fail
    rw[Exit.noGoto_ret];go_ret2;exact⟨aGR (by show _=jV 0 2047 s.neg;rw[hng];exact sR _ _),by first|exact(aG.refl _ w).drewN _|exact((aG.refl _ w).drewN _).drewN _|exact(((aG.refl _ w).drewN _).drewN _).drewN _⟩
  · rw[hng]at c802
    go_wp2_with fail
    go_quiet (fail)
    go_wp2_with fail
    rw[Exit.noGoto_ret];go_ret2;exact⟨aGR (by show _=jV 0 2047 s.neg;rw[hng];exact tA _ _),by first|exact(aG.refl _ w).drewN _|exact((aG.refl _ w).drewN _).drewN _|exact(((aG.refl _ w).drewN _).drewN _).drewN _⟩
open Go.RowKit
def upS (s:Dec.Dc)(E:Int):Dec.Dc × Int :=
  if E < -1022 then (Dec.rsh ((-1022-E-1).toNat%60+1) (iL ((-1022-E-1).toNat / 60) s),-1022)else (s,E)
def rX (m:Nat)(E:Int)(neg:Bool):Int × Bool:=(jV m (if bits .and .u64 (m:Int) 4503599627370496==0 then 0 else E+1023) neg,false)
def zX (s:Dec.Dc)(E:Int)(neg:Bool):Int × Bool :=
  if 2047≤E+1023 then (jV 0 2047 neg,true)
  else if qH (Dec.lsh 53 s)=9007199254740992 then (if 2047≤E+1+1023 then (jV 0 2047 neg,true)else rX 4503599627370496 (E+1) neg)
  else rX (qH (Dec.lsh 53 s)) E neg
def fbF (r1 r2:Nat)(s:Dec.Dc):Int × Bool :=
  zX (upS (kR r2 (fA r1 s 0).1 (fA r1 s 0).2).1 ((kR r2 (fA r1 s 0).1 (fA r1 s 0).2).2-1)).1 (upS (kR r2 (fA r1 s 0).1 (fA r1 s 0).2).1 ((kR r2 (fA r1 s 0).1 (fA r1 s 0).2).2-1)).2 s.neg
theorem aNL (B r1 r2:Nat)(s:Dec.Dc)(w:World)(T:nA w B)(h:aE w B s)(hF:Dec.Fine s)(hn:1≤s.nd)(ht:s.top<10)(p1:-330≤s.dp)(p2:s.dp≤310)
    (E1:aAM r1 s) (E2:aC6 r2 (fA r1 s 0).1) (b1:r1≤3200) (b2:r2≤10100) :
    Calls Tryz.prog 241 #[.pointer (some ⟨B,0,none⟩),.pointer (some ⟨8,0,none⟩)] w (wS B (fbF r1 r2 s) w):=by
  have c800:=h.nd;have c801:=h.dp;have hne:((s.nd:Int)==0)=false:=beq_eq_false_iff_ne.2 (by omega);obtain⟨n0,hn0⟩:∃n0,n0=s.nd:=⟨_,rfl⟩
  obtain⟨d0,hd0⟩:∃d0,d0=s.dp:=⟨_,rfl⟩
  rw[←hn0]at c800 hne
  rw[←hd0]at c801
  have g1:¬(310<d0):=by omega
  have g2:¬(d0 < -330):=by omega
  have H:=hid h;have HT:=hid T;have HF:=hid hF;have HE1:=hid E1;have HE2:=hid E2;have HP1:=hid p1;have HP2:=hid p2;have HN:=hid hn;have HTP:=hid ht;clear h T hF E1 E2 p1 p2 hn ht hn0 hd0;go_enter Tryz.func241,Tryz.ntmps241
  go_wp2_with fail
  apply uY;go_wp2_with fail
  clear hne g1 g2 c800 c801;go_loopg [6] r1 (fun g ev wr=>∃(r:Nat) (t:Dec.Dc) (e:Int),g=r∧ev=.int .i64 e∧aAM r t∧fA r t e=fA r1 s 0∧Dec.Fine t∧1≤t.nd∧-1000≤t.dp∧t.dp≤400∧0≤e∧e+27*r≤27*r1∧aE wr B t∧aG (· = B) w wr)
  case atStart=>exact⟨r1,s,0,rfl,rfl,HE1.out,rfl,HF.out,HN.out,by have:=HP1.out;omega,by have:=HP2.out;omega,Int.le_refl _,by omega,H.out,aG.refl _ _⟩
  case round =>
    obtain⟨r,t,e,hg,rfl,hE,hf,hT,hn1,hd1,hd2,he0,he1,hD,hK⟩:=hrel;have HG:=hid hg;have HD:=hid hD;have HK:=hid hK;have HS:=hid (HT.out.kept hK);have HFI:=hid hf;have c801:wr.cell? ⟨B,801,none⟩=some (.int .i64 t.dp):=hD.dp;cases r with
    | zero =>
      have hdp:¬ 0<t.dp:=hE;have ht1:(t,e)=fA r1 s 0:=hf;have hte:t=(fA r1 s 0).1:=congrArg Prod.fst ht1;have hee:e=(fA r1 s 0).2:=congrArg Prod.snd ht1;have hE2:=HE2.out;rw[←hte]at hE2
      have HE2':=hid hE2;have HTE:=hid hte;have HEE:=hid hee;have HT1:=hid hT;have hdp':t.dp≤0:=by omega
      have HDP:=hid hdp;have HFB:Hid (fbF r1 r2 s=zX (upS (kR r2 t e).1 ((kR r2 t e).2-1)).1 (upS (kR r2 t e).1 ((kR r2 t e).2-1)).2 s.neg):=by
        show _=_;unfold fbF;rw[←hte,←hee]
      have hneg:t.neg=s.neg:=by
        rw[hte];have tops:∀(r:Nat) (t:Dec.Dc) (e:Int),(fA r t e).1.neg=t.neg:=by
          intro r;induction r with
          | zero=>intro t e;rfl
          | succ r ih=>intro t e;exact ih (fN t) _
        exact tops r1 s 0
      have HNG:=hid hneg;have eb0:e≤100000:=by omega
      clear hE hf hT hD hK hg ht1 hte hee hE2 hdp hneg he1;obtain⟨wo,rfl⟩:∃wo:World,wo=wr:=⟨_,rfl⟩
      go_wp2_with fail
      clear hdp';go_loopg [6] r2 (fun g ev wr=>∃(r:Nat) (u:Dec.Dc) (e2:Int),g=r∧ev=.int .i64 e2∧aC6 r u∧kR r u e2=kR r2 t e∧Dec.Fine u∧1≤u.nd∧-1000≤u.dp∧u.dp≤400∧e2≤100000∧-300000≤e2-27*r∧u.neg=s.neg∧aE wr B u∧aG (· = B) w wr)
      case atStart=>exact⟨r2,t,e,rfl,rfl,HE2'.out,rfl,HT1.out,hn1,hd1,hd2,eb0,by omega,HNG.out,HD.out,HK.out⟩
      case round =>
        clear c801;obtain⟨r,u,e2,hg,rfl,hE,hf,hT,hn2,hu1,hu2,hx1,hx2,hng,hD,hK⟩:=hrel;have HG2:=hid hg;have HD2:=hid hD;have HK2:=hid hK;have HS2:=hid (HT.out.kept hK);have c801:wr.cell? ⟨B,801,none⟩=some (.int .i64 u.dp):=hD.dp;have cz:wr.cell? ⟨B,0,none⟩=some (.int .u8 (dig u 0:Nat)):=hD.dig 0 (by omega);cases r with
        | zero =>
          have hlo:¬zM u:=hE;have hu0:(u,e2)=kR r2 t e:=hf;have hue:u=(kR r2 t e).1:=congrArg Prod.fst hu0;have hee2:e2=(kR r2 t e).2:=congrArg Prod.snd hu0;have HFB2:Hid (fbF r1 r2 s=zX (upS u (e2-1)).1 (upS u (e2-1)).2 s.neg):=by
            show _=_;rw[HFB.out,←hue,←hee2]
          obtain⟨ng,hngg⟩:∃ng,s.neg=ng:=⟨_,rfl⟩
          rw[hngg]at HFB2 hng
          have HU:=hid hT;have HUN:=hid hng;obtain⟨E0,hE0⟩:∃E0:Int,e2=E0+1:=⟨e2-1,by omega⟩
          subst hE0;have i0:=HS2.out.info0;have i1:=HS2.out.info1;have i2:=HS2.out.info2;have x1:E0≤100000:=by omega
          have x2:-300001≤E0:=by omega
          rw[show E0+1-1=E0 by omega]at HFB2
          have hcase:(u.dp<0→False)∧((0<u.dp)∨(u.dp=0∧53≤dig u 0)):=by
            unfold zM at hlo;constructor
            · intro h;exact hlo (.inl h)
            · omega
          have HU1:=hid hu1;have HU2:=hid hu2;obtain⟨s3,hs3⟩:∃s3,(upS u E0).1=s3:=⟨_,rfl⟩
          obtain⟨E3,hE3⟩:∃E3,(upS u E0).2=E3:=⟨_,rfl⟩
          rw[hs3,hE3]at HFB2
          have HS3:=hid hs3;have HE3:=hid hE3;clear hE hf hT hD hK hg hlo hu0 hue hee2 hng hx1 hx2 hu1 hu2 hs3 hE3;obtain⟨hca,hcb⟩:=hcase;have Hcb:=hid hcb;clear hcb hca;obtain⟨wp,rfl⟩:∃wp:World,wp=wr:=⟨_,rfl⟩
          rcases Hcb.out with hc|⟨hc,hc5⟩
          all_goals
            first
              | (have n1 : ¬u.dp < 0 := by omega
                 have n2 : ((u.dp : Int) == 0) = false := beq_eq_false_iff_ne.2 (by omega);clear hc)
              | (rw [hc]at c801
                 have n2 : ¬((dig u 0 : Int) < 53) := by omega
                 clear hc hc5)
            go_upto_if 111 with fail
            go_cut [6] (fun v wx=>v=.int .i64 E3∧aE wx B s3∧aG (· = B) w wx∧Dec.Fine s3∧1≤s3.nd∧-5000000≤s3.dp∧s3.dp≤400∧s3.neg=ng∧-300001≤E3∧E3≤100000)
            case first =>
              as_aux_lemma =>
                by_cases hlow:E0 < -1022
                · have u1:upS u E0=(Dec.rsh ((-1022-E0-1).toNat%60+1) (iL ((-1022-E0-1).toNat / 60) u),-1022):=by unfold upS;rw[if_pos hlow]
                  obtain⟨j,hj⟩:∃j,(-1022-E0-1).toNat / 60=j:=⟨_,rfl⟩
                  obtain⟨k,hk⟩:∃k,(-1022-E0-1).toNat%60+1=k:=⟨_,rfl⟩
                  rw[hj,hk]at u1
                  have e3:E3=-1022:=by rw[←HE3.out,u1]
                  have s3e:s3=Dec.rsh k (iL j u):=by rw[←HS3.out,u1]
                  have hjk:-1022-E0=((60*j+k:Nat):Int):=by omega
                  have k1:1≤k:=by omega
                  have k2:k<61:=by omega
                  have jb:j≤10000:=by omega
                  obtain⟨f1,f2,f3,f4⟩:=aFS j u HU.out hn2;have w1:=HU1.out;have w2:=HU2.out;obtain⟨q1,q2,q3,q4,_,_⟩:=Dec.rsh_fine k (iL j u) k1 k2 f1 f2;have SR:∀v (x:Int),x=E0+1022→aE v B u→Calls Tryz.prog 263 #[.pointer (some ⟨B,0,none⟩),.int .i64 x] v (kQ B s3 v):=by
                    intro v x hx hu;have:=aE1 B j k u v hu HU.out hn2 k1 k2 jb (by omega) (by omega);rw[show(-((60*j+k:Nat):Int))=x by omega,←s3e]at this
                    exact this
                  have HSR:=hid SR;have HQ1:Hid (Dec.Fine s3):=by show Dec.Fine s3;rw[s3e];exact q1
                  have HQ2:Hid (1≤s3.nd):=by show _≤_;rw[s3e];exact q2
                  have HQ3:Hid (-5000000≤s3.dp):=by show _≤_;rw[s3e];omega
                  have HQ4:Hid (s3.dp≤400):=by show _≤_;rw[s3e];omega
                  have HQ5:Hid (s3.neg=ng):=by
                    show _=_;rw[s3e];have itn:∀(j:Nat) (s:Dec.Dc),(iL j s).neg=s.neg:=by
                      intro j;induction j with
                      | zero=>intro s;rfl
                      | succ j ih=>intro s;exact ih _
                    show(iL j u).neg=ng;rw[itn,HUN.out]
                  have HE3':=hid e3;clear u1 hj hk e3 s3e hjk k1 k2 jb f1 f2 f3 f4 w1 w2 q1 q2 q3 q4 SR;go_wp2_with fail
                  refine(HSR.out _ _ (by omega) HD2.out).mono ?_;rintro e' w' ⟨rfl,hd',hk'⟩;have HD':=hid hd';have HK':=hid hk';clear hd' hk';go_wp2_with fail
                  go_meet
                  case rel=>exact⟨congrArg (Value.int .i64) (by have:=HE3'.out;omega),HD'.out,HK2.out.trans HK'.out,HQ1.out,HQ2.out,HQ3.out,HQ4.out,HQ5.out,by have:=HE3'.out;omega,by have:=HE3'.out;omega⟩
                · have u1:upS u E0=(u,E0):=by unfold upS;rw[if_neg hlow]
                  have e3:E0=E3:=by rw[←HE3.out,u1]
                  have s3e:u=s3:=by rw[←HS3.out,u1]
                  have HE3':=hid e3;have HS3E:=hid s3e;clear u1 e3 s3e;go_wp2_with fail
                  go_meet
                  case rel =>
                    have e3:=HE3'.out;have s3e:=HS3E.out;subst s3e;exact⟨congrArg (Value.int .i64) (by omega),HD2.out,HK2.out,HU.out,hn2,by have:=HU1.out;omega,HU2.out,HUN.out,by omega,by omega⟩
            case rest =>
              as_aux_lemma =>
                obtain⟨rfl,hD,hK,hF3,hn3,hp3,hp4,hg3,y1,y2⟩:=hcut;have HD3:=hid hD;have KK0:=hid hK;have HS4:=hid (HT.out.kept hK);have i0:=HS4.out.info0;have i1:=HS4.out.info1;have i2:=HS4.out.info2;have c802:wc.cell? ⟨B,802,none⟩=some (.bool ng):=by rw[←hg3];exact hD.neg
                have outF0:zX s3 E3 ng=if 2047≤E3+1023 then (jV 0 2047 ng,true)
                    else if qH (Dec.lsh 53 s3)=9007199254740992 then (if 2047≤E3+1+1023 then (jV 0 2047 ng,true)else rX 4503599627370496 (E3+1) ng)
                    else rX (qH (Dec.lsh 53 s3)) E3 ng:=rfl
                by_cases hov:2047≤E3+1023
                · rw[if_pos hov]at outF0
                  have HO:Hid ((fbF r1 r2 s).1=jV 0 2047 ng∧(fbF r1 r2 s).2=true):=by show _∧_;rw[HFB2.out,outF0];exact⟨rfl,rfl⟩
                  clear hD hK hg3 outF0 hF3 hn3 hp3 hp4;go_wp2_with fail
                  go_quiet (fail)
                  go_wp2_with fail
                  apply wp_goto;refine⟨_,rfl,?_⟩;go_wp2_with fail
                  go_quiet (fail)
                  go_wp2_with fail
                  go_step3
                  go_wp2_with fail
                  go_quiet (fail)
                  cases ng
                  · go_wp2_with fail
                    rw[Exit.noGoto_ret];go_ret2;exact⟨lP HO.out.1 HO.out.2 (sR _ _),by first|exact KK0.out|exact KK0.out.drewN _|exact(KK0.out.drewN _).drewN _|exact((KK0.out.drewN _).drewN _).drewN _|exact(((KK0.out.drewN _).drewN _).drewN _).drewN _⟩
                  · go_wp2_with fail
                    go_quiet (fail)
                    go_wp2_with fail
                    rw[Exit.noGoto_ret];go_ret2;exact⟨lP HO.out.1 HO.out.2 (tA _ _),by first|exact KK0.out|exact KK0.out.drewN _|exact(KK0.out.drewN _).drewN _|exact((KK0.out.drewN _).drewN _).drewN _|exact(((KK0.out.drewN _).drewN _).drewN _).drewN _⟩
                · rw[if_neg hov]at outF0
                  obtain⟨s4,hs4⟩:∃s4,Dec.lsh 53 s3=s4:=⟨_,rfl⟩
                  obtain⟨m,hm⟩:∃m,qH s4=m:=⟨_,rfl⟩
                  rw[hs4,hm]at outF0
                  obtain⟨q1,q2,q3,q4,_,_⟩:=Dec.lsh_fine 53 s3 (by decide) (by decide) hF3 hn3;rw[hs4]at q1 q2 q3 q4
                  have SL:∀v,nA v B→aE v B s3→Calls Tryz.prog 263 #[.pointer (some ⟨B,0,none⟩),.int .i64 53] v (kQ B s4 v):=by
                    intro v hv hu;have:=aE9 B 53 s3 v hv hu hF3 hn3 (by decide) (by decide) (by omega) (by omega);rw[hs4]at this
                    exact this
                  have RI:∀v,aE v B s4→Calls Tryz.prog 278 #[.pointer (some ⟨B,0,none⟩)] v fun e w'=>e=.returned (.int .u64 (m:Nat))∧v=w':=by
                    intro v hu;have:=aJf B s4 v hu q1 (by omega) (by omega);rw[hm]at this
                    exact this
                  have hng4:s4.neg=ng:=by rw[←hs4];exact hg3
                  have HN4:=hid hng4;have HSL:=hid SL;have HRI:=hid RI;have HOF:=hid outF0;clear hD hK hg3 outF0 hF3 hn3 hp3 hp4 SL RI hng4 hs4 hm q1 q2 q3 q4 i0 i1 i2 c802;have i0:=HS4.out.info0;have i1:=HS4.out.info1;have i2:=HS4.out.info2;go_wp2_with fail
                  go_quiet (fail)
                  go_wp2_with fail
                  refine(HSL.out _ (HS4.out.kept ((aG.refl _ _).drewN _)) (HD3.out.drewN _)).mono ?_;rintro e' w5 ⟨rfl,hd',hk'⟩;have HD5:=hid hd';have KK5:=hid ((KK0.out.drewN _).trans hk');have HS5:=hid ((HS4.out.kept ((aG.refl _ _).drewN _)).kept hk');clear hd' hk' i0 i1 i2;have i0:=HS5.out.info0;have i1:=HS5.out.info1;have i2:=HS5.out.info2;have c802:w5.cell? ⟨B,802,none⟩=some (.bool ng):=by rw[←HN4.out];exact HD5.out.neg
                  go_wp2_with fail
                  refine(HRI.out _ HD5.out).mono ?_;rintro e' w' ⟨rfl,rfl⟩;by_cases hm53:m=9007199254740992
                  · subst hm53
                    have h1:=HOF.out;rw[if_pos rfl]at h1
                    by_cases hov2:2047≤E3+1+1023
                    · rw[if_pos hov2]at h1
                      have HO:Hid ((fbF r1 r2 s).1=jV 0 2047 ng∧(fbF r1 r2 s).2=true):=by show _∧_;rw[HFB2.out,h1];exact⟨rfl,rfl⟩
                      clear h1;go_wp2_with fail
                      go_quiet (fail)
                      go_wp2_with fail
                      apply wp_goto;refine⟨_,rfl,?_⟩;go_wp2_with fail
                      go_quiet (fail)
                      go_wp2_with fail
                      go_step3
                      go_wp2_with fail
                      go_quiet (fail)
                      cases ng
                      · go_wp2_with fail
                        rw[Exit.noGoto_ret];go_ret2;exact⟨lP HO.out.1 HO.out.2 (sR _ _),by first|exact KK5.out|exact KK5.out.drewN _|exact(KK5.out.drewN _).drewN _|exact((KK5.out.drewN _).drewN _).drewN _|exact(((KK5.out.drewN _).drewN _).drewN _).drewN _⟩
                      · go_wp2_with fail
                        go_quiet (fail)
                        go_wp2_with fail
                        rw[Exit.noGoto_ret];go_ret2;exact⟨lP HO.out.1 HO.out.2 (tA _ _),by first|exact KK5.out|exact KK5.out.drewN _|exact(KK5.out.drewN _).drewN _|exact((KK5.out.drewN _).drewN _).drewN _|exact(((KK5.out.drewN _).drewN _).drewN _).drewN _⟩
                    · rw[if_neg hov2]at h1
                      obtain⟨z,hz⟩:∃z,(bits .and .u64 ((4503599627370496:Nat):Int) 4503599627370496==0)=z:=⟨_,rfl⟩
                      have hz':(bits .and .u64 (4503599627370496:Int) 4503599627370496==0)=z:=hz;have h2:rX 4503599627370496 (E3+1) ng=(jV 4503599627370496 (if z then 0 else E3+1+1023) ng,false):=by unfold rX;rw[hz];rfl
                      have HO:Hid ((fbF r1 r2 s).1=jV 4503599627370496 (if z then 0 else E3+1+1023) ng∧(fbF r1 r2 s).2=false):=by show _∧_;rw[HFB2.out,h1,h2];exact⟨rfl,rfl⟩
                      clear h1 h2 hz;cases z
                      · go_wp2_with fail
                        go_quiet (fail)
                        go_wp2_with fail
                        apply wp_goto;refine⟨_,rfl,?_⟩;go_wp2_with fail
                        go_quiet (fail)
                        cases ng
                        · go_wp2_with fail
                          rw[Exit.noGoto_ret];go_ret2;exact⟨lP HO.out.1 HO.out.2 (sR _ _),by first|exact KK5.out|exact KK5.out.drewN _|exact(KK5.out.drewN _).drewN _|exact((KK5.out.drewN _).drewN _).drewN _|exact(((KK5.out.drewN _).drewN _).drewN _).drewN _⟩
                        · go_wp2_with fail
                          go_quiet (fail)
                          go_wp2_with fail
                          rw[Exit.noGoto_ret];go_ret2;exact⟨lP HO.out.1 HO.out.2 (tA _ _),by first|exact KK5.out|exact KK5.out.drewN _|exact(KK5.out.drewN _).drewN _|exact((KK5.out.drewN _).drewN _).drewN _|exact(((KK5.out.drewN _).drewN _).drewN _).drewN _⟩
                      · exact absurd (hz'.symm.trans (show(bits .and .u64 (4503599627370496:Int) 4503599627370496==0)=false by kernel_rfl)) (by decide)
                  · have h1:=HOF.out
                    rw[if_neg hm53]at h1
                    have hmb:((m:Int)==9007199254740992)=false:=beq_eq_false_iff_ne.2 (by omega);obtain⟨z,hz⟩:∃z,(bits .and .u64 (m:Int) 4503599627370496==0)=z:=⟨_,rfl⟩
                    have h2:rX m E3 ng=(jV m (if z then 0 else E3+1023) ng,false):=by unfold rX;rw[hz]
                    have HO:Hid ((fbF r1 r2 s).1=jV m (if z then 0 else E3+1023) ng∧(fbF r1 r2 s).2=false):=by show _∧_;rw[HFB2.out,h1,h2];exact⟨rfl,rfl⟩
                    clear h1 h2;cases z
                    · go_wp2_with fail
                      apply wp_goto;refine⟨_,rfl,?_⟩;go_wp2_with fail
                      go_quiet (fail)
                      cases ng
                      · go_wp2_with fail
                        rw[Exit.noGoto_ret];go_ret2;exact⟨lP HO.out.1 HO.out.2 (sR _ _),by first|exact KK5.out|exact KK5.out.drewN _|exact(KK5.out.drewN _).drewN _|exact((KK5.out.drewN _).drewN _).drewN _|exact(((KK5.out.drewN _).drewN _).drewN _).drewN _⟩
                      · go_wp2_with fail
                        go_quiet (fail)
                        go_wp2_with fail
                        rw[Exit.noGoto_ret];go_ret2;exact⟨lP HO.out.1 HO.out.2 (tA _ _),by first|exact KK5.out|exact KK5.out.drewN _|exact(KK5.out.drewN _).drewN _|exact((KK5.out.drewN _).drewN _).drewN _|exact(((KK5.out.drewN _).drewN _).drewN _).drewN _⟩
                    · go_wp2_with fail
                      apply wp_goto;refine⟨_,rfl,?_⟩;go_wp2_with fail
                      go_quiet (fail)
                      cases ng
                      · go_wp2_with fail
                        rw[Exit.noGoto_ret];go_ret2;exact⟨lP HO.out.1 HO.out.2 (sR _ _),by first|exact KK5.out|exact KK5.out.drewN _|exact(KK5.out.drewN _).drewN _|exact((KK5.out.drewN _).drewN _).drewN _|exact(((KK5.out.drewN _).drewN _).drewN _).drewN _⟩
                      · go_wp2_with fail
                        go_quiet (fail)
                        go_wp2_with fail
                        rw[Exit.noGoto_ret];go_ret2;exact⟨lP HO.out.1 HO.out.2 (tA _ _),by first|exact KK5.out|exact KK5.out.drewN _|exact(KK5.out.drewN _).drewN _|exact((KK5.out.drewN _).drewN _).drewN _|exact(((KK5.out.drewN _).drewN _).drewN _).drewN _⟩
        | succ r =>
          obtain⟨m,hm⟩:∃m:Nat,u.dp=-(m:Int):=⟨(-u.dp).toNat,by have:=hE.1;unfold zM at this;omega⟩
          rw[hm]at c801
          obtain⟨pb1,pb2⟩:=qE m;obtain⟨n,hnn⟩:∃n,pw m=n:=⟨_,rfl⟩
          have hmn:(-u.dp).toNat=m:=by omega
          have SL:∀v,nA v B→aE v B u→Calls Tryz.prog 263 #[.pointer (some ⟨B,0,none⟩),.int .i64 (n:Int)] v (kQ B (gB u) v):=by
            intro v hv hu;have:=aE9 B n u v hv hu hT hn2 (by omega) (by omega) (by omega) (by omega);have e1:gB u=Dec.lsh n u:=by unfold gB;rw[hmn,hnn]
            rw[e1];exact this
          obtain⟨q1,q2,q3,q4,_,_⟩:=Dec.lsh_fine (pw (-u.dp).toNat) u (qE _).1 (by have:=(qE (-u.dp).toNat).2;omega) hT hn2;have HSL:=hid SL;have HEN:=hid hE.2;have HQ1:Hid (Dec.Fine (gB u)):=q1;have HQ2:Hid (1≤(gB u).nd):=q2;have HQ3:Hid (-1000≤(gB u).dp):=by show -1000≤(Dec.lsh (pw (-u.dp).toNat) u).dp;omega
          have HQ4:Hid ((gB u).dp≤400):=by show(Dec.lsh (pw (-u.dp).toNat) u).dp≤400;omega
          have HQ5:Hid ((gB u).neg=s.neg):=hng;have hfi2:kR r (gB u) (e2-n)=kR r2 t e:=by
            rw[←hf];show _=kR r (gB u) (e2-pw (-u.dp).toNat);rw[hmn,hnn]
          have HFI2:=hid hfi2;have nb1:1≤n:=by omega
          have nb2:n≤27:=by omega
          have eb:-300000≤e2:=by omega
          have HER:Hid (-300000≤e2-n-27*(r:Int)):=by show _≤_;omega
          obtain⟨b,o,hb,t1,t2⟩:=HS2.out.p2;by_cases h0:m=0
          · subst h0
            have h5:(dig u 0:Int)<53:=by have:=hE.1;unfold zM at this;omega
            have n1:n=1:=by rw[←hnn];rfl
            subst n1;have t3:wr.cell? ⟨b,o,none⟩=some (.int .i64 1):=t2 0 (by omega);have c801':wr.cell? ⟨B,801,none⟩=some (.int .i64 0):=c801;clear hE hf hT hn2 hD hK hg SL q1 q2 q3 q4 hfi2 hnn pb1 pb2 hm hmn hu1 hu2 t2 c801 hng;go_wp2_with fail
            go_quiet (fail)
            go_wp2_with fail
            go_quiet (fail)
            go_wp2_with fail
            refine(HSL.out _ (HS2.out.kept ((aG.refl _ _).drewN _)) (HD2.out.drewN _)).mono ?_;rintro e' w' ⟨rfl,hd',hk'⟩;have HD':=hid hd';have HK':=hid hk';clear hd' hk';go_wp2
            go_roundg r
            case measure=>have:=HG2.out;omega
            case rel=>exact⟨r,gB u,_,rfl,rfl,HEN.out,HFI2.out,HQ1.out,HQ2.out,HQ3.out,HQ4.out,by omega,HER.out,HQ5.out,HD'.out,(HK2.out.drewN _).trans HK'.out⟩
          · have hlt:-(m:Int)<0:=by omega
            have m1:1≤m:=by omega
            by_cases h9:9≤m
            · have n27:n=27:=by rw[←hnn];unfold pw;rw[if_pos h9]
              subst n27;have h9':(9:Int)≤m:=by omega
              have mb:m≤1000:=by omega
              clear hE hf hT hn2 hD hK hg SL q1 q2 q3 q4 hfi2 hnn pb1 pb2 hm hmn hu1 hu2 t2 cz hng;go_wp2_with fail
              go_quiet (fail)
              go_wp2_with fail
              refine(HSL.out _ (HS2.out.kept ((aG.refl _ _).drewN _)) (HD2.out.drewN _)).mono ?_;rintro e' w' ⟨rfl,hd',hk'⟩;have HD':=hid hd';have HK':=hid hk';clear hd' hk';go_wp2
              go_roundg r
              case measure=>have:=HG2.out;omega
              case rel=>exact⟨r,gB u,_,rfl,rfl,HEN.out,HFI2.out,HQ1.out,HQ2.out,HQ3.out,HQ4.out,by omega,HER.out,HQ5.out,HD'.out,(HK2.out.drewN _).trans HK'.out⟩
            · have h9':¬(9:Int)≤m:=by omega
              have t3:=t2 m (by omega);rw[aHo m (by omega),hnn]at t3
              have hm9:(m:Int)<9:=by omega
              have hm8:m<9:=by omega
              clear hE hf hT hn2 hD hK hg SL q1 q2 q3 q4 hfi2 hnn pb1 pb2 hm hmn hu1 hu2 t2 cz h9 hng;go_wp2_with fail
              go_quiet (fail)
              go_wp2_with fail
              go_quiet (fail)
              go_wp2_with fail
              refine(HSL.out _ (HS2.out.kept ((aG.refl _ _).drewN _)) (HD2.out.drewN _)).mono ?_;rintro e' w' ⟨rfl,hd',hk'⟩;have HD':=hid hd';have HK':=hid hk';clear hd' hk';go_wp2
              go_roundg r
              case measure=>have:=HG2.out;omega
              case rel=>exact⟨r,gB u,_,rfl,rfl,HEN.out,HFI2.out,HQ1.out,HQ2.out,HQ3.out,HQ4.out,by omega,HER.out,HQ5.out,HD'.out,(HK2.out.drewN _).trans HK'.out⟩
    | succ r =>
      have hdp:0<t.dp:=hE.1;obtain⟨d,hd⟩:∃d:Nat,t.dp=(d:Int):=⟨t.dp.toNat,by omega⟩
      rw[hd]at c801
      obtain⟨pb1,pb2⟩:=qE d;obtain⟨n,hnn⟩:∃n,pw d=n:=⟨_,rfl⟩
      have SR:∀u,aE u B t→Calls Tryz.prog 263 #[.pointer (some ⟨B,0,none⟩),.int .i64 (-(n:Int))] u (kQ B (fN t) u):=by
        intro u hu;have:=aE1 B 0 n t u hu hT hn1 (by omega) (by omega) (by omega) (by omega) (by omega);rw[show(-((60*0+n:Nat):Int))=-(n:Int) by omega]at this
        have e1:fN t=Dec.rsh n (iL 0 t):=by unfold fN;rw[hd,Int.toNat_natCast,hnn];rfl
        rw[e1];exact this
      obtain⟨q1,q2,q3,q4,_,_⟩:=Dec.rsh_fine (pw t.dp.toNat) t (qE _).1 (by have:=(qE t.dp.toNat).2;omega) hT hn1;have HSR:=hid SR;have HEN:=hid hE.2;have HQ1:Hid (Dec.Fine (fN t)):=q1;have HQ2:Hid (1≤(fN t).nd):=q2;have HQ3:Hid (-1000≤(fN t).dp):=by show -1000≤(Dec.rsh (pw t.dp.toNat) t).dp;omega
      have HQ4:Hid ((fN t).dp≤400):=by show(Dec.rsh (pw t.dp.toNat) t).dp≤400;omega
      have hfi2:fA r (fN t) (e+n)=fA r1 s 0:=by
        rw[←hf];show _=fA r (fN t) (e+pw t.dp.toNat);rw[hd,Int.toNat_natCast,hnn]
      have HFI2:=hid hfi2;have nb1:1≤n:=by omega
      have nb2:n≤27:=by omega
      have eb:e≤100000:=by omega
      have hdpos:(0:Int)<d:=by omega
      have HER:Hid (e+n+27*(r:Int)≤27*r1):=by show _≤_;omega
      obtain⟨b,o,hb,t1,t2⟩:=HS.out.p2;by_cases h9:9≤d
      · have n27:n=27:=by rw[←hnn];unfold pw;rw[if_pos h9]
        subst n27;have h9':(9:Int)≤d:=by omega
        clear hE hf hT hn1 hD hK hg SR q1 q2 q3 q4 hfi2 hnn pb1 pb2 hd hdp hd1 hd2 t2;go_wp2_with fail
        go_quiet (fail)
        go_wp2_with fail
        refine(HSR.out _ (HD.out.drewN _)).mono ?_;rintro e' w' ⟨rfl,hd',hk'⟩;have HD':=hid hd';have HK':=hid hk';clear hd' hk';go_wp2
        go_roundg r
        case measure=>have:=HG.out;omega
        case rel=>exact⟨r,fN t,_,rfl,rfl,HEN.out,HFI2.out,HQ1.out,HQ2.out,HQ3.out,HQ4.out,by omega,HER.out,HD'.out,(HK.out.drewN _).trans HK'.out⟩
      · have h9':¬(9:Int)≤d:=by omega
        have t3:=t2 d (by omega);rw[aHo d (by omega),hnn]at t3
        have hd9:(d:Int)<9:=by omega
        have hd8:d<9:=by omega
        clear hE hf hT hn1 hD hK hg SR q1 q2 q3 q4 hfi2 hnn pb1 pb2 hd hdp hd1 hd2 t2 h9;go_wp2_with fail
        go_quiet (fail)
        go_wp2_with fail
        go_quiet (fail)
        go_wp2_with fail
        refine(HSR.out _ ((HD.out.drewN _))).mono ?_;rintro e' w' ⟨rfl,hd',hk'⟩;have HD':=hid hd';have HK':=hid hk';clear hd' hk';go_wp2
        go_roundg r
        case measure=>have:=HG.out;omega
        case rel=>exact⟨r,fN t,_,rfl,rfl,HEN.out,HFI2.out,HQ1.out,HQ2.out,HQ3.out,HQ4.out,by omega,HER.out,HD'.out,(HK.out.drewN _).trans HK'.out⟩
end Go.Proofs.YtcfgbdhpcboikaaGreatDoor
