/-
internal/strconv.ftoa64 in the form 'e', the shortest digits, at a subnormal float above 0.
-/
import Derived.Test.YtcfgbdhpcboikaaGreatDoorAtofW
namespace Go.Proofs.YtcfgbdhpcboikaaGreatDoor
open Go.Lib (hid)
set_option maxHeartbeats 4000000
set_option maxRecDepth 100000
open Go.RowKit Go.Sort
theorem vP {n:Nat}:n≤n:=Nat.le_refl n
theorem aJG (w:World)(B:Nat)(ad:Option Addr)(c:Nat)(S:Nat→Prop)(b L x d:Nat)(p:Int)(hO:Out w w B S ad c [])(T:aA w)
  (hb1:1≤b) (hb:b<4503599627370496) (hL:Lib.bitLen b=L) (L1:1≤L) (L2:L≤52) (hx:b*2^(64-L)=x) (hx2:x<18446744073709551616)
  (hS:∀k,S k→k<w.heap.size)
  (SF:∀w',aA w'→Calls Tryz.prog 265 #[.int .u64 x,.int .i64 ((L:Int)-1138)] w' fun e' w2=>e'=.returned (.tuple #[.int .u64 d,.int .i64 p])∧Below w'.heap.size w' w2)
  (hd1:1≤d) (hd:d<18446744073709551616) (p1:-900≤p) (p2:p≤900) :
  Calls Tryz.prog 228 #[.slice ad 0 c,.float .f64 b,.int .u8 101,.int .i64 (-1)] w (rB w B S (dS ((Lib.decDigits d).take (bI (Lib.decDigits d))) ((Lib.nDigits d:Int)+p-1))):=by
 have a1:bits .and .i64 (0:Int) 2047=0:=rH 0 (by omega);have a2:=aCo b (by omega);rw[Nat.mod_eq_of_lt hb]at a2
 have g3:(b:Int) / 4503599627370496=0:=by omega
 have g4:((b:Int) / 9223372036854775808 !=0)=false:=bne_eq_false_iff_eq.2 (by omega);have g5:((b:Int)==0)=false:=beq_eq_false_iff_ne.2 (by omega);have LL:=fun w=>aAa b L w (by omega) hL
 have HL:=hid LL;have hwx:IntKind.u64.wrap ((b:Int)*2^(64-L))=(x:Int):=by
  rw[cM,←hx];have:((b*2^(64-L):Nat):Int)=(b:Int)*2^(64-L):=by push_cast;rfl
  rw[←this];omega
 have HWX:=hid hwx;have d85:=aCM;have HO:=hid hO;have HT:=hid T;have HSF:=hid SF;have HSS:=hid hS;clear hO T SF hS LL hwx hx hL;go_enter Tryz.func228,Tryz.ntmps228
 go_wp2_with fail
 go_quiet (fail)
 go_wp2_with (go_at_call 191;((with_reducible refine(HL.out _).mono ?_);rintro e w' ⟨rfl,rfl⟩))
 obtain⟨g,hg⟩:∃g,g=w.heap.size:=⟨_,rfl⟩
 obtain⟨W,hW⟩:∃W,W=(w.drewN nq).alloc (.cells oW 251):=⟨_,rfl⟩
 have bW:Below w.heap.size w W:=by rw[hW];exact((Below.refl w.heap.size w).trans ⟨rfl,rfl,rfl,Nat.le_refl _,fun _ _=>rfl⟩:Below w.heap.size w (w.drewN nq)).alloc vP _
 have sW:W.heap.size=g+1:=by rw[hW,hg];simp
 have hH:Holds (fun(b:UInt8)=>Value.int .u8 (b.toNat:Int)) W g 0 (Array.replicate 32 (0:UInt8)):=by rw[hW,hg];exact aE1 (w.drewN nq) 251
 have TW:=HT.out.below bW vP;have hW2:=hW;unfold oW at hW2;rw[←hW2,←hg];clear hW hW2;rw[HWX.out,show(-1022:Int)-(64-(L:Int))-52=(L:Int)-1138 by omega];refine(HSF.out W TW).mono ?_;rintro e1 w2 ⟨rfl,B2⟩;have H2:Holds (fun(b:UInt8)=>Value.int .u8 (b.toNat:Int)) w2 g 0 (Array.replicate 32 (0:UInt8)):=Holds.below hH B2 (by omega);have b2:Below w.heap.size w w2:=bW.trans (B2.mono (by omega));have s2:g<w2.heap.size:=by have:=B2.size;omega
 have T2:=HT.out.below b2 vP;have n20:=fN d hd;have n1:=Lib.nDigits_pos d;obtain⟨N,hN⟩:∃N,Lib.nDigits d=N:=⟨_,rfl⟩
 rw[hN]at n20 n1
 have ND:=fun(w:World) (h:Lib.TabIs Tryz.prog w "internal/strconv.uint64pow10" .u64 Lib.pow10Tab)=>Tryz.internal_strconv_numDigits d hd1 hd w h
 rw[hN]at ND
 have HGG:=hid hg;clear hg;have ht1:=tI d hd1;have ht2:bI (Lib.decDigits d)≤N:=by have:=gM (Lib.decDigits d);rw[Lib.decDigits_length,hN]at this;exact this
 obtain⟨k,hk⟩:∃k,bI (Lib.decDigits d)=k+1:=⟨bI (Lib.decDigits d)-1,by omega⟩
 have k20:k≤19:=by omega
 have hmx:max (k:Int) 0=k:=by omega
 have HKK:=hid hk;clear ht1 ht2 hk;have HH2:=hid H2;have HB2:=hid b2;have HT2:=hid T2;have HN:=hid hN;have HND:=hid ND;clear hH B2 H2 b2 T2 TW bW sW hN ND;go_wp2_with fail
 obtain⟨C,hC⟩:∃C:World→Prop,∀u,C u:=⟨fun _=>True,fun _=>trivial⟩
 haveI:Nonempty (WIn C):=⟨⟨w2,hC _⟩⟩
 refine gJ 10 [([0,1,2,3],4),([],5)] [6,7,8,9] C (by kernel_rfl) (by kernel_rfl) (hC _) ?_;refine dD (fun K' hK'=>?_);simp only[pick,pickZ,pickS,pickG];repeat (go_big_quiet_step (fail))
 refine wpQuiet_nil (hK' _ (fun Q1 hQ1=>?_));clear hK' K';simp only[pick,pickZ,pickS,pickG];go_wp2_with fail
 refine(HND.out _ (HT2.out.drewN 1).u10).mono ?_;rintro e w3 ⟨rfl,hw3⟩;subst hw3;go_wp2_with fail
 refine hQ1 _ _ (hC _) (dD (fun K' hK'=>wpQuiet_nil (hK' _ (fun Q2 hQ2=>?_))));clear hK' K' hQ1 Q1;simp only[pick,pickZ,pickS,pickG];go_wp2_with fail
 refine(uX g d k p N (w2.drewN 1) (Holds.drewN HH2.out 1) hd1 hd HN.out (by omega) (by omega) HKK.out).mono ?_;rintro e w3 ⟨rfl,S3,K3⟩;have HS3:=hid S3;have HK3:=hid K3;clear S3 K3;go_wp2_with fail
 refine hQ2 _ _ (hC _) (gZ (fun K' hK'=>?_));clear hQ2 Q2;simp only[pick,pickZ,pickS,pickG];repeat (go_big_quiet_step (fail))
 refine wpQuiet_nil (hK' _ (fun Q3 hQ3=>?_));clear hK' K';simp only[List.drop_succ_cons,List.drop_zero];go_wp2_with fail
 have K03:aC (fun i=>w.heap.size≤i) w w3:=(aC.of_below HB2.out).trans ((((aC.refl (· = g) w2).drewN 1).trans HK3.out).mono (fun i _ e=>by have:=HGG.out;omega));have K03f:aC (fun _=>False) w w3:=K03.mono (fun i hi e=>by omega);have O3:=HO.out.later K03;have S3':IsB w3 (some ⟨g,0,none⟩) ((Lib.decDigits d).take (k+1)):=HS3.out.take (k+1);have hl3:((Lib.decDigits d).take (k+1)).length=k+1:=by
  have:=HKK.out;have:=gM (Lib.decDigits d);rw[List.length_take];omega
 have hz3:g<w3.heap.size:=by have:=HK3.out.size;simp at this;omega
 refine(aHw w3 B g k ad c S _ ((N:Int)+p) O3 S3' (fun e=>by have:=HSS.out g e;have:=HGG.out;omega) hz3 hl3 (by omega) (by omega) (by omega)).mono ?_;rintro e w4 ⟨ad4,c4,rfl,O4⟩;go_wp2
 go_ret;refine⟨ad4,c4,?_,?_⟩
 ·rw[HKK.out,HN.out];rfl
 ·rw[HKK.out,HN.out];exact Out.first K03f O4
open Go.RowKit Go.Sort
def vZ:Array Value:=#[Value.int .u8 0,Value.int .u8 0,Value.int .u8 0,Value.int .u8 0,Value.int .u8 0,Value.int .u8 0,Value.int .u8 0,Value.int .u8 0,Value.int .u8 0,Value.int .u8 0,Value.int .u8 0,Value.int .u8 0,Value.int .u8 0,Value.int .u8 0,Value.int .u8 0,Value.int .u8 0,Value.int .u8 0,Value.int .u8 0,Value.int .u8 0,Value.int .u8 0,Value.int .u8 0,Value.int .u8 0,Value.int .u8 0,Value.int .u8 0]
theorem aGK:vZ=Array.replicate 24 (.int .u8 0):=rfl
theorem aLD (w:World)(T:TypeId):Holds (fun(b:UInt8)=>Value.int .u8 (b.toNat:Int)) (w.alloc (.cells vZ T)) w.heap.size 0 (Array.replicate 24 (0:UInt8)):=fun j hj=>by
 have hj':j<24:=by simpa using hj
 refine⟨?_,World.frozen?_alloc_new _ _ _ _⟩;rw[World.cell?_alloc_new,getElem!_pos _ j hj];rw[aGK];simp[hj']
def aGM (b x:Nat)(ee:Int):Prop :=
 (b<4503599627370496∧∃L,Lib.bitLen b=L∧1≤L∧L≤52∧b*2^(64-L)=x∧ee=(L:Int)-1138) ∨
 (4503599627370496≤b∧(4503599627370496+b%4503599627370496)*2048=x∧ee=((b / 4503599627370496:Nat):Int)-1086)
theorem aFQ (w:World)(B:Nat)(ad:Option Addr)(c:Nat)(S:Nat→Prop)(b x k d:Nat)(ee p:Int)(hO:Out w w B S ad c [])(T:aA w)
  (hb1:1≤b) (hb:b<9218868437227405312) (hx2:x<18446744073709551616) (hc:aGM b x ee) (hS:∀k,S k→k<w.heap.size)
  (FC:∀w',aA w'→Calls Tryz.prog 261 #[.int .u64 x,.int .i64 ee,.int .i64 ((k:Int)+1),.int .i64 k,.int .u8 101] w' fun e' w2=>e'=.returned (.tuple #[.int .u64 d,.int .i64 p])∧Below w'.heap.size w' w2)
  (k16:k≤16) (hN:Lib.nDigits d=k+1) (hd1:1≤d) (hd:d<18446744073709551616) (p1:-900≤p) (p2:p≤900) :
  Calls Tryz.prog 228 #[.slice ad 0 c,.float .f64 b,.int .u8 101,.int .i64 k] w (rB w B S (dS (Lib.decDigits d) ((k:Int)+p))):=by
 have hk0:¬(k:Int)<0:=by omega
 have hk1:(0:Int)<(k:Int)+1:=by omega
 have hk18:(k:Int)+1≤18:=by omega
 have hdne:((d:Int) !=0)=true:=by rw[bne_iff_ne];omega
 have d85:=aCM;have hopt:=T.opt;have n20:=fN d hd;have ND:=fun(w:World) (h:Lib.TabIs Tryz.prog w "internal/strconv.uint64pow10" .u64 Lib.pow10Tab)=>Tryz.internal_strconv_numDigits d hd1 hd w h
 rw[hN]at ND
 have ht1:=tI d hd1;have ht2:bI (Lib.decDigits d)≤k+1:=by have:=gM (Lib.decDigits d);rw[Lib.decDigits_length,hN]at this;exact this
 obtain⟨t,ht⟩:∃t,bI (Lib.decDigits d)=t+1:=⟨bI (Lib.decDigits d)-1,by omega⟩
 obtain⟨z,hz⟩:∃z,k=t+z:=⟨k-t,by omega⟩
 have hz':(k:Int)=(t:Int)+(z:Int):=by omega
 have hback:=aBq d;have hcl:(bZ d).length=t+1:=by unfold bZ;rw[List.length_take,ht,Lib.decDigits_length];omega
 rw[hcl,hN,show k+1-(t+1)=z by omega]at hback
 have HBK:=hid hback;have HCL:=hid hcl;have HN:=hid hN;have HND:=hid ND;have HTT:=hid ht;have HZ:=hid hz';have HK16:=hid k16;have HO:=hid hO;have HT:=hid T;have HFC:=hid FC;have HSS:=hid hS;have HP:Hid (-900≤p∧p≤900):=⟨p1,p2⟩
 have HD:Hid (1≤d∧d<18446744073709551616):=⟨hd1,hd⟩
 have HTK:Hid (t≤k):=hid (by omega);have g4:((b:Int) / 9223372036854775808 !=0)=false:=bne_eq_false_iff_eq.2 (by omega);clear hO T FC hS hback hcl hN ND ht ht1 ht2 hz hz' k16 n20 p1 p2 hd1 hd;rcases hc with⟨hb5,L,hL,L1,L2,hx,he⟩|⟨hb5,hx,he⟩
 case' inl =>
  have a1:bits .and .i64 (0:Int) 2047=0:=rH 0 (by omega);have a2:=aCo b (by omega);rw[Nat.mod_eq_of_lt hb5]at a2
  have g3:(b:Int) / 4503599627370496=0:=by omega
  have g5:((b:Int)==0)=false:=beq_eq_false_iff_ne.2 (by omega);have HL:=hid (fun w=>aAa b L w (by omega) hL);have HX:Hid (IntKind.u64.wrap ((b:Int)*2^(64-L))=(x:Int)):=by
   show _=_;rw[cM,←hx];have:((b*2^(64-L):Nat):Int)=(b:Int)*2^(64-L):=by push_cast;rfl
   rw[←this];omega
  have HE:Hid ((-1022:Int)-(64-(L:Int))-52=ee):=hid (by omega);clear hx he hL hx2 hb hb1;go_enter Tryz.func228,Tryz.ntmps228
  go_wp2_with fail
  go_quiet (fail)
  go_wp2_with (go_at_call 191;((with_reducible refine(HL.out _).mono ?_);rintro e w' ⟨rfl,rfl⟩))
  rw[HX.out,HE.out]
 case' inr =>
  obtain⟨E,hE⟩:∃E,b / 4503599627370496=E:=⟨_,rfl⟩
  obtain⟨f,hf⟩:∃f,b%4503599627370496=f:=⟨_,rfl⟩
  have f1:f<4503599627370496:=by omega
  have E1:1≤E:=by omega
  have E2:E≤2046:=by omega
  have a1:=rH E (by omega);have a2:=aCo b (by omega);rw[hf]at a2
  have a3:=aNv f f1;have g1:((E:Int)==2047)=false:=beq_eq_false_iff_ne.2 (by omega);have g2:((E:Int)==0)=false:=beq_eq_false_iff_ne.2 (by omega);have g3:(b:Int) / 4503599627370496=E:=by omega
  have HL:=hid (fun w=>aKJ f w f1);obtain⟨M,hM⟩:∃M,M=4503599627370496+f:=⟨_,rfl⟩
  rw[←hM]at a3 HL
  have g5:((M:Int)==0)=false:=beq_eq_false_iff_ne.2 (by omega);have m2:M<9007199254740992:=by omega
  rw[hf,←hM]at hx
  rw[hE]at he
  have HX:Hid ((M:Int)*2048=(x:Int)):=hid (by omega);have HE:Hid ((E:Int)+-1023-11-52=ee):=hid (by omega);clear hx he hE hf hM f1 E1 hx2 hb hb1 hb5;go_enter Tryz.func228,Tryz.ntmps228
  go_wp2_with fail
  go_quiet (fail)
  go_wp2_with (go_at_call 191;((with_reducible refine(HL.out _).mono ?_);rintro e w' ⟨rfl,rfl⟩))
  rw[HX.out,HE.out]
 all_goals
  obtain⟨g,hg⟩:∃g,g=w.heap.size:=⟨_,rfl⟩
  obtain⟨W,hW⟩:∃W,W=(w.drewN nq).alloc (.cells vZ 214):=⟨_,rfl⟩
  have bW:Below w.heap.size w W:=by rw[hW];exact((Below.refl w.heap.size w).trans ⟨rfl,rfl,rfl,Nat.le_refl _,fun _ _=>rfl⟩:Below w.heap.size w (w.drewN nq)).alloc vP _
  have sW:W.heap.size=g+1:=by rw[hW,hg];simp
  have hH:Holds (fun(b:UInt8)=>Value.int .u8 (b.toNat:Int)) W g 0 (Array.replicate 24 (0:UInt8)):=by rw[hW,hg];exact aLD (w.drewN nq) 214
  have TW:=HT.out.below bW vP;have hW2:=hW;unfold vZ at hW2;rw[←hW2,←hg];clear hW hW2;refine(HFC.out W TW).mono ?_;rintro e1 w2 ⟨rfl,B2⟩;have HH2:=hid (Holds.below hH B2 (by omega));have HB2:=hid (bW.trans (B2.mono (by omega)));have hs2:g<w2.heap.size:=by have:=B2.size;omega
  have HT2:=hid (HT.out.below HB2.out vP);have HGG:=hid hg;clear hg hH B2 TW bW sW;go_wp2_with fail
  obtain⟨C,hC⟩:∃C:World→Prop,∀u,C u:=⟨fun _=>True,fun _=>trivial⟩
  haveI:Nonempty (WIn C):=⟨⟨w2,hC _⟩⟩
  refine gJ 10 [([0,1,2,3],4),([],5)] [6,7,8,9] C (by kernel_rfl) (by kernel_rfl) (hC _) ?_;refine dD (fun K' hK'=>?_);simp only[pick,pickZ,pickS,pickG];repeat (go_big_quiet_step (fail))
  refine wpQuiet_nil (hK' _ (fun Q1 hQ1=>?_));clear hK' K';simp only[pick,pickZ,pickS,pickG];go_wp2_with fail
  refine(HND.out _ (HT2.out.drewN 1).u10).mono ?_;rintro e w3 ⟨rfl,hw3⟩;subst hw3;go_wp2_with fail
  refine hQ1 _ _ (hC _) (dD (fun K' hK'=>wpQuiet_nil (hK' _ (fun Q2 hQ2=>?_))));clear hK' K' hQ1 Q1;simp only[pick,pickZ,pickS,pickG];go_wp2_with fail
  refine(tN g d 24 p (k+1) (w2.drewN 1) (Holds.drewN HH2.out 1) (by omega) HD.out.1 HD.out.2 HN.out (by have:=HP.out;omega) (by have:=HP.out;omega)).mono ?_;rintro e w3 ⟨rfl,S3,K3⟩;have HS3:=hid S3;have HK3:=hid K3;clear S3 K3;go_wp2_with fail
  refine hQ2 _ _ (hC _) (gZ (fun K' hK'=>?_));clear hQ2 Q2;simp only[pick,pickZ,pickS,pickG];repeat (go_big_quiet_step (fail))
  refine wpQuiet_nil (hK' _ (fun Q3 hQ3=>?_));clear hK' K';simp only[List.drop_succ_cons,List.drop_zero];go_wp2_with fail
  rw[HTT.out];have K03:aC (fun i=>w.heap.size≤i) w w3:=(aC.of_below HB2.out).trans ((((aC.refl (· = g) w2).drewN 1).trans HK3.out).mono (fun i _ e=>by have:=HGG.out;omega));have K03f:aC (fun _=>False) w w3:=K03.mono (fun i hi e=>by omega);have O3:=HO.out.later K03;have S3':IsB w3 (some ⟨g,0,none⟩) ((Lib.decDigits d).take (t+1)):=HS3.out.take (t+1);have hl3:((Lib.decDigits d).take (t+1)).length=t+1:=by
   have:=HCL.out;unfold bZ at this;rwa[HTT.out]at this
  have hz3:g<w3.heap.size:=by have:=HK3.out.size;simp at this;omega
  have hp1:=HP.out.1;have hp2:=HP.out.2;have hk16:=HK16.out;have htk:=HTK.out;have hzz:=HZ.out;have hg9:¬S g:=fun e=>by have:=HSS.out g e;have:=HGG.out;omega
  have F:=aKF w3 B g t z 24 ad c S _ (((k+1:Nat):Int)+p) false O3 S3' hg9 hz3 hl3 (by omega) (by omega) (by omega) (by omega) (by omega);rw[←hzz]at F
  have HFF:=hid F;have HK3f:=hid K03f;clear F K03 K03f O3 S3' hl3 hz3 hg9 hzz htk hk16 hp1 hp2;refine HFF.out.mono ?_;rintro e w4 ⟨ad4,c4,rfl,O4⟩;have HO4:=hid O4;clear O4;go_wp2
  go_ret;have he:Lib.decDigits d=(Lib.decDigits d).take (t+1)++List.replicate z 48:=by
   have:=HBK.out;unfold bZ at this;rw[HTT.out]at this
   exact this.symm
  have hq:((k+1:Nat):Int)+p-1=(k:Int)+p:=by omega
  refine⟨ad4,c4,?_,?_⟩
  ·rw[←hq];conv=>rhs;rw[he]
   rfl
  ·have:=Out.first HK3f.out HO4.out;rw[hq,←he]at this
   exact this
end Go.Proofs.YtcfgbdhpcboikaaGreatDoor
