/-
The document's utf8: begins, walked.
-/
import Derived.Test.YtcfgbdhpcboikaaGreatDoorLookW
namespace Go.Proofs.YtcfgbdhpcboikaaGreatDoor
open Go.Lib (hid)
set_option maxHeartbeats 2000000
set_option maxRecDepth 100000
open Go.RowKit PU8
theorem aOn {x y:Bool}{a b c d:Int}(h0:x=y)(h:a=c)(h2:b=d):Ending.returned (.tuple #[.bool x,.int .i64 a,.int .i64 b])=.returned (.tuple #[.bool y,.int .i64 c,.int .i64 d]):=by rw[h0,h,h2]
theorem aOG (c:Nat)(h:c<256):(PU8.size c).1≤4∧(PU8.size c).2<256:=by
 unfold PU8.size;by_cases h1:c<128
 ·rw[if_pos h1];simp only;omega
 rw[if_neg h1];by_cases h2:192≤c∧c<224
 ·rw[if_pos h2];simp only;omega
 rw[if_neg h2];by_cases h3:224≤c∧c<240
 ·rw[if_pos h3];simp only;omega
 rw[if_neg h3];by_cases h4:240≤c∧c<248
 ·rw[if_pos h4];simp only;omega
 rw[if_neg h4];simp only;omega
theorem aET (g off cap i k n0 v0:Nat)(L:List UInt8)(w:World)(hB:Hid (bP w g off L))(hi:i<L.length)(hL:L.length≤140737488355328)(hk:1≤k)(hk4:k≤4)
  (hs:Hid (PU8.size (L[i]'hi).toNat=(n0,v0))) (hn4:n0≤4) (hn:n0=0∨n0<k∨L.length<i+k) :
  Calls Tryz.prog 141 #[.slice (some ⟨g,off,none⟩) L.length cap,.int .i64 i,.int .i64 k] w fun e w'=>e=.returned (.tuple #[.bool false,.int .i64 0,.int .i64 0])∧w=w':=by
 have hc:=hB.out i hi;by_cases h0:n0=0
 ·subst h0;go_enter Tryz.func141,Tryz.ntmps141
  go_wp2_with (go_at_call 180;refine(sT _ _ _ _ hs).mono ?_;rintro e w' ⟨rfl,rfl⟩)
  go_ret3;exact⟨rfl,rfl⟩
 ·have t0:((n0:Int)==0)=false:=by simp;omega
  by_cases h1:n0<k
  ·have t1:decide ((n0:Int)<(k:Int))=true:=by simp;omega
   go_enter Tryz.func141,Tryz.ntmps141
   go_wp2_with (go_at_call 180;refine(sT _ _ _ _ hs).mono ?_;rintro e w' ⟨rfl,rfl⟩)
   go_ret3;exact⟨rfl,rfl⟩
  ·have h2:L.length<i+k:=by omega
   have t1:decide ((n0:Int)<(k:Int))=false:=by simp;omega
   go_enter Tryz.func141,Tryz.ntmps141
   go_wp2_with (go_at_call 180;refine(sT _ _ _ _ hs).mono ?_;rintro e w' ⟨rfl,rfl⟩)
   go_ret3;exact⟨rfl,rfl⟩
theorem aIy (L:List UInt8)(i k n0 v0:Nat)(hi:i<L.length)(_hk:1≤k)(hs:PU8.size (L[i]'hi).toNat=(n0,v0))(h0:n0≠0)(hkn:k≤n0)(hl:i+k≤L.length) :
  begins (aO (L.drop i)) k=match PU8.follow (k-1) v0 (aO (L.drop (i+1)))with
   | none=>(false,0,0)
   | some v=>(decide (max (PU8.widen (n0-k) v v).1 (PU8.least n0)≤min (PU8.widen (n0-k) v v).2 0x10ffff)&&!(decide (0xd800≤max (PU8.widen (n0-k) v v).1 (PU8.least n0))&&decide (min (PU8.widen (n0-k) v v).2 0x10ffff≤0xdfff)),n0,v):=by
 rw[zL L i hi,begins_at _ _ k n0 v0 hs h0 hkn (by unfold aO;rw[List.length_map,List.length_drop];omega)];cases PU8.follow (k-1) v0 (aO (L.drop (i+1)))<;>rfl
theorem aEU (g off cap i k n0 v0:Nat)(b:Bool)(n v:Nat)(L:List UInt8)(w:World)(hB:Hid (bP w g off L))(hi:i<L.length)(hL:L.length≤140737488355328)(hk:1≤k)(hk4:k≤4)
  (hs:Hid (PU8.size (L[i]'hi).toNat=(n0,v0))) (hn4:n0≤4) (hv0:v0<256) (h0:n0≠0) (hkn:k≤n0) (hl:i+k≤L.length) (hr:Hid (begins (aO (L.drop i)) k=(b,n,v))) :
  Calls Tryz.prog 141 #[.slice (some ⟨g,off,none⟩) L.length cap,.int .i64 i,.int .i64 k] w fun e w'=>e=.returned (.tuple #[.bool b,.int .i64 n,.int .i64 v])∧w=w':=by
 have hc:=hB.out i hi;have t0:((n0:Int)==0)=false:=by simp;omega
 have t1:decide ((n0:Int)<(k:Int))=false:=by simp;omega
 have hb:=hid (aIy L i k n0 v0 hi hk hs.out h0 hkn hl);go_enter Tryz.func141,Tryz.ntmps141
 go_wp2_with (go_at_call 180;refine(sT _ _ _ _ hs).mono ?_;rintro e w' ⟨rfl,rfl⟩)
 clear hc;go_loop [6,7,8,10,11] (fun r6 r7 r8 a j=>r6=.bool false∧r7=.int .i64 0∧r8=.int .i64 0∧∃v' j':Nat,a=.int .i64 v'∧j=.int .i64 j'∧Hid (lF L i k v0 j' v')) (fun _ _ _ _ j=>k-(intOf j).toNat)
 case atStart=>exact⟨rfl,rfl,rfl,v0,1,rfl,rfl,hid (lF.start L i k v0 hk hv0)⟩
 case round =>
  obtain⟨rfl,rfl,rfl,v',j,rfl,rfl,hF⟩:=hrel;have hvb:=hF.out.le hk4;have hj1:=hF.out.lo;have hj2:=hF.out.hi;rcases Nat.lt_or_ge j k with hjk|hjk
  ·have hij:i+j<L.length:=by omega
   have hcj:=hB.out (i+j) hij;have hcb:=(L[i+j]'hij).toNat_lt;obtain⟨c,hcc⟩:∃c,(L[i+j]'hij).toNat=c:=⟨_,rfl⟩
   rw[hcc]at hcj hcb
   have HC:=hid hcc;clear hcc;by_cases hc1:c<128
   ·have hz:=hb.out;rw[hr.out,hF.out.none hjk hij c HC.out (.inl hc1)]at hz
    simp only[Prod.mk.injEq]at hz;obtain⟨rfl,rfl,rfl⟩:=hz;go_wp2
    go_ret3;exact⟨rfl,rfl⟩
   ·by_cases hc2:191<c
    ·have hz:=hb.out;rw[hr.out,hF.out.none hjk hij c HC.out (.inr hc2)]at hz
     simp only[Prod.mk.injEq]at hz;obtain⟨rfl,rfl,rfl⟩:=hz;go_wp2
     go_ret3;exact⟨rfl,rfl⟩
    ·have HN:=hid (hF.out.next hjk hij c HC.out (by omega) (by omega));go_wp2
     go_round
     case rel=>exact⟨_,_,_,_,_,⟨rfl,rfl,rfl,v'*64+c-128,rfl,j+1,rfl,HN⟩,rfl,rfl,rfl,by congr 1;omega,by congr 1⟩
     case measure=>simp[intOf];omega
  ·have HF:=hid (hF.out.done hjk);go_wp2
   go_loop [12,13,14] (fun a b j=>∃lo hi j':Nat,a=.int .i64 lo∧b=.int .i64 hi∧j=.int .i64 j'∧Hid (nS n0 k v' j' lo hi)) (fun _ _ j=>n0-(intOf j).toNat)
   case atStart=>exact⟨v',v',k,rfl,rfl,rfl,hid (nS.start n0 k v' hkn hvb)⟩
   case round =>
    obtain⟨lo,hi',jj,rfl,rfl,rfl,hW⟩:=hrel;obtain⟨hlo,hhi⟩:=hW.out.le hk hn4;rcases Nat.lt_or_ge jj n0 with hjn|hjn
    ·have HN:=hid (hW.out.next hjn);go_wp2
     go_round
     case rel=>exact⟨lo*64,hi'*64+63,jj+1,by go_num,by go_num,by go_num,HN⟩
     case measure=>simp[intOf];omega
    ·have HW:=hid (hW.out.done hjn);have hz:=hb.out;rw[hr.out,HF.out]at hz
     simp only at hz;rw[HW.out]at hz
     simp only[Prod.mk.injEq]at hz;obtain⟨hz,rfl,rfl⟩:=hz;have HZ:=hid hz;clear hz;go_wp2_with (go_at_call 181;refine(aHM n hn4 _).mono ?_;rintro e w' ⟨rfl,rfl⟩)
     all_goals
      go_ret3;refine⟨aOn ?_ rfl rfl,rfl⟩;rw[HZ.out,Bool.eq_iff_iff];simp;omega
theorem tO (g off cap i k:Nat)(b:Bool)(n v:Nat)(L:List UInt8)(w:World)(hB:Hid (bP w g off L))(hi:i<L.length)(hL:L.length≤140737488355328)(hk:1≤k)(hk4:k≤4)(hr:Hid (begins (aO (L.drop i)) k=(b,n,v))) :
  Calls Tryz.prog 141 #[.slice (some ⟨g,off,none⟩) L.length cap,.int .i64 i,.int .i64 k] w fun e w'=>e=.returned (.tuple #[.bool b,.int .i64 n,.int .i64 v])∧w=w':=by
 obtain⟨h4,h256⟩:=aOG (L[i]'hi).toNat (L[i]'hi).toNat_lt;obtain⟨n0,v0,hs⟩:∃n0 v0,PU8.size (L[i]'hi).toNat=(n0,v0):=⟨_,_,rfl⟩
 rw[hs]at h4 h256
 by_cases hn:n0=0∨n0<k∨L.length<i+k
 ·have hz:begins (aO (L.drop i)) k=(false,0,0):=by
   have hlen:(aO (L.drop i)).length=L.length-i:=by unfold aO;rw[List.length_map,List.length_drop]
   have hlen2:(aO (L.drop (i+1))).length=L.length-(i+1):=by unfold aO;rw[List.length_map,List.length_drop]
   rw[zL L i hi];unfold begins;simp only[hs];rw[if_pos (by simp only[List.length_cons];omega)]
  have h2:=hr.out;rw[hz]at h2
  simp only[Prod.mk.injEq]at h2;obtain⟨rfl,rfl,rfl⟩:=h2;exact aET g off cap i k n0 v0 L w hB hi hL hk hk4 (hid hs) h4 hn
 ·exact aEU g off cap i k n0 v0 b n v L w hB hi hL hk hk4 (hid hs) h4 h256 (by omega) (by omega) (by omega) hr
open Go.RowKit PU8
theorem aOp {x y:Bool}{a b c d:Int}(h:a=c)(h2:b=d)(h0:x=y):Ending.returned (.tuple #[.int .i64 a,.int .i64 b,.bool x])=.returned (.tuple #[.int .i64 c,.int .i64 d,.bool y]):=by rw[h0,h,h2]
structure iZ (b:List Nat) (k m:Nat):Prop where
 lo:1≤k
 hi:k≤5
 out:pieceU b=pieceFrom b (5-k) k m
theorem iZ.hit {b:List Nat}{k m v:Nat}(h:iZ b k m)(hk:k<5)(hb:begins b k=(true,k,v)):pieceU b=(k,v,true):=by
 rw[h.out,show 5-k=(5-(k+1))+1 from by omega];unfold pieceFrom;rw[hb,if_pos ⟨rfl,rfl⟩]
theorem iZ.some {b:List Nat}{k m n v:Nat}(h:iZ b k m)(hk:k<5)(hb:begins b k=(true,n,v))(hn:n≠k):iZ b (k+1) k:=by
 have hlo:=h.lo;refine⟨by omega,by omega,?_⟩;rw[h.out,show 5-k=(5-(k+1))+1 from by omega];conv=>lhs;unfold pieceFrom
 rw[hb,if_neg (fun hh=>hn hh.2),if_pos rfl]
theorem iZ.no {b:List Nat}{k m n v:Nat}(h:iZ b k m)(hk:k<5)(hb:begins b k=(false,n,v)):iZ b (k+1) m:=by
 have hlo:=h.lo;refine⟨by omega,by omega,?_⟩;rw[h.out,show 5-k=(5-(k+1))+1 from by omega];conv=>lhs;unfold pieceFrom
 rw[hb,if_neg (fun hh=>by cases hh.1),if_neg (by simp)]
theorem iZ.done {b:List Nat}{k m:Nat}(h:iZ b k m)(hk:5≤k):pieceU b=(m,0xfffd,false):=by
 rw[h.out,show 5-k=0 from by omega];rfl
theorem aHN (g off cap i:Nat)(n v:Nat)(t:Bool)(L:List UInt8)(w:World)(hB:Hid (bP w g off L))(hi:i<L.length)(hL:L.length≤140737488355328)(hr:Hid (pieceU (aO (L.drop i))=(n,v,t))) :
  Calls Tryz.prog 82 #[.slice (some ⟨g,off,none⟩) L.length cap,.int .i64 i] w fun e w'=>e=.returned (.tuple #[.int .i64 n,.int .i64 v,.bool t])∧w=w':=by
 go_enter Tryz.func82,Tryz.ntmps82
 go_wp2
 go_loop [4,5,6,7,8] (fun r4 r5 r6 m k=>r4=.int .i64 0∧r5=.int .i64 0∧r6=.bool false∧∃m' k':Nat,m=.int .i64 m'∧k=.int .i64 k'∧Hid (iZ (aO (L.drop i)) k' m')) (fun _ _ _ _ k=>5-(intOf k).toNat)
 case atStart=>exact⟨rfl,rfl,rfl,1,1,rfl,rfl,hid ⟨Nat.le_refl _,by omega,rfl⟩⟩
 case round =>
  obtain⟨rfl,rfl,rfl,m,k,rfl,rfl,hP⟩:=hrel;have hk1:=hP.out.lo;have hk5:=hP.out.hi;rcases Nat.lt_or_ge k 5 with hk|hk
  ·obtain⟨b0,n0,v0,hb⟩:∃b0 n0 v0,begins (aO (L.drop i)) k=(b0,n0,v0):=⟨_,_,_,rfl⟩
   have HB:=hid hb;cases b0 with
   | true =>
    by_cases hn:n0=k
    ·subst hn;have hz:=hP.out.hit hk hb;rw[hr.out]at hz
     simp only[Prod.mk.injEq]at hz;obtain⟨rfl,rfl,rfl⟩:=hz;clear hb;go_wp2_with (go_at_call 141;refine(tO g off cap i n true n v L _ hB hi hL (by omega) (by omega) HB).mono ?_;rintro e w' ⟨rfl,rfl⟩)
     go_ret3;exact⟨rfl,rfl⟩
    ·have HN:=hid (hP.out.some hk hb hn);have hne:((n0:Int)==(k:Int))=false:=by rw[beq_eq_false_iff_ne];omega
     clear hb;go_wp2_with (go_at_call 141;refine(tO g off cap i k true n0 v0 L _ hB hi hL (by omega) (by omega) HB).mono ?_;rintro e w' ⟨rfl,rfl⟩)
     go_round
     case rel=>exact⟨rfl,rfl,rfl,k,k+1,rfl,by go_num,HN⟩
     case measure=>simp[intOf];omega
   | false =>
    have HN:=hid (hP.out.no hk hb);clear hb;go_wp2_with (go_at_call 141;refine(tO g off cap i k false n0 v0 L _ hB hi hL (by omega) (by omega) HB).mono ?_;rintro e w' ⟨rfl,rfl⟩)
    go_round
    case rel=>exact⟨rfl,rfl,rfl,m,k+1,rfl,by go_num,HN⟩
    case measure=>simp[intOf];omega
  ·have hz:=hP.out.done hk;rw[hr.out]at hz
   simp only[Prod.mk.injEq]at hz;obtain⟨rfl,rfl,rfl⟩:=hz;go_wp2
   go_ret3;exact⟨aOp rfl (by simp) rfl,rfl⟩
open Go.RowKit PU8
theorem lJ (l:List Nat)(h:∀n∈l,n<256):Lib.byteCells (l.map UInt8.ofNat)=l.map (fun n=>Value.int .u8 (n:Nat)):=by
 unfold Lib.byteCells;rw[List.map_map];apply List.map_congr_left;intro n hn;simp only[Function.comp_apply];rw[ofN n (h n hn)]
def wL (w:World)(n:Nat)(arr:Array Value)(e:Ending)(w':World):Prop:=e=.returned (.slice (some ⟨w.heap.size,0,none⟩) n n)∧w'=w.alloc (.cells arr 5)
theorem aOi (c:Nat)(h:c<128)(w:World)(arr:Array Value)(ha:Hid (arr=#[.int .u8 c])):Calls Tryz.prog 132 #[.int .i64 c] w (wL w 1 arr):=by
 go_enter Tryz.func132,Tryz.ntmps132
 go_wp2
 go_ret;exact⟨rfl,by rw[ha.out]⟩
theorem aOj (c:Nat)(h1:128≤c)(h:c<2048)(w:World)(arr:Array Value)(ha:Hid (arr=#[.int .u8 (192+(c:Int) / 64),.int .u8 (128+(c:Int)%64)])):Calls Tryz.prog 132 #[.int .i64 c] w (wL w 2 arr):=by
 go_enter Tryz.func132,Tryz.ntmps132
 go_wp2
 go_ret;exact⟨rfl,by rw[ha.out]⟩
theorem aOk (c:Int)(h1:2048≤c)(h:c<65536)(w:World)(arr:Array Value)(ha:Hid (arr=#[.int .u8 (224+c / 4096),.int .u8 (128+c / 64%64),.int .u8 (128+c%64)])):Calls Tryz.prog 132 #[.int .i64 c] w (wL w 3 arr):=by
 go_enter Tryz.func132,Tryz.ntmps132
 go_wp2
 go_ret;exact⟨rfl,by rw[ha.out]⟩
theorem aOl (c:Int)(h1:65536≤c)(h:c≤1114111)(w:World)(arr:Array Value)(ha:Hid (arr=#[.int .u8 (240+c / 262144),.int .u8 (128+c / 4096%64),.int .u8 (128+c / 64%64),.int .u8 (128+c%64)])):Calls Tryz.prog 132 #[.int .i64 c] w (wL w 4 arr):=by
 go_enter Tryz.func132,Tryz.ntmps132
 go_wp2
 go_ret;exact⟨rfl,by rw[ha.out]⟩
theorem aHH (c:Nat)(h:c≤1114111)(w:World):Calls Tryz.prog 132 #[.int .i64 c] w (wL w (cK c).length (Lib.byteCells (cK c)).toArray):=by
 unfold cK;by_cases h1:c<128
 ·have he:encN c=[c]:=by unfold encN;rw[if_pos h1]
  rw[he];refine aOi c h1 w _ ?_;show _=_;rw[lJ _ (by simp;omega)];rfl
 by_cases h2:c<2048
 ·rw[enc_two c (by omega) h2];refine aOj c (by omega) h2 w _ ?_;show _=_;rw[lJ _ (by simp;omega)];have E1:((192+c / 64:Nat):Int)=192+(c:Int) / 64:=by omega
  have E3:((128+c%64:Nat):Int)=128+(c:Int)%64:=by omega
  simp only[List.map_cons,List.map_nil,E1,E3]
 by_cases h3:c<65536
 ·rw[enc_three c (by omega) h3];refine aOk c (by omega) (by omega) w _ ?_;show _=_;rw[lJ _ (by simp;omega)];have E1:((224+c / 4096:Nat):Int)=224+(c:Int) / 4096:=by omega
  have E2:((128+c / 64%64:Nat):Int)=128+(c:Int) / 64%64:=by omega
  have E3:((128+c%64:Nat):Int)=128+(c:Int)%64:=by omega
  simp only[List.map_cons,List.map_nil,E1,E2,E3]
 ·rw[enc_four c (by omega)];refine aOl c (by omega) (by omega) w _ ?_;show _=_;rw[lJ _ (by simp;omega)];have E1:((240+c / 262144:Nat):Int)=240+(c:Int) / 262144:=by omega
  have E2:((128+c / 4096%64:Nat):Int)=128+(c:Int) / 4096%64:=by omega
  have E3:((128+c / 64%64:Nat):Int)=128+(c:Int) / 64%64:=by omega
  have E4:((128+c%64:Nat):Int)=128+(c:Int)%64:=by omega
  simp only[List.map_cons,List.map_nil,E1,E2,E3,E4]
open Go.RowKit PU8
def oG (r:Nat):Value:=.int .i32 (r:Nat)
theorem Tryz.info21:(Tryz.prog.info? 21).map (fun i=>(i.zero,i.size,i.bytes))=some (some (.int .i32 0),1,4):=by kernel_rfl
theorem aNu {L:List UInt8}{k:Nat}(h:k<L.length):L.drop k≠[]:=by
 intro e;have:=congrArg List.length e;rw[List.length_drop]at this
 simp at this;omega
structure qE (L:List UInt8) (k:Nat) (rs:List Nat):Prop where
 le:k≤L.length
 len:rs.length≤k
 out:rs++fJ (L.drop k)=fJ L
theorem qE.start (L:List UInt8):qE L 0 []:=⟨Nat.zero_le _,Nat.le_refl _,rfl⟩
theorem qE.next {L:List UInt8}{k:Nat}{rs:List Nat}{n v:Nat}{t:Bool}(h:qE L k rs)(hk:k<L.length)(hp:pieceU (aO (L.drop k))=(n,v,t)):1≤n∧k+n≤L.length∧v≤1114111∧qE L (k+n) (rs++[v]):=by
 have hne:=aNu hk;have h1:=pU _ hne;have h2:=aCZ _ hne;have h3:=aC0 _ hne;have h4:=aGz _ hne;have h5:=qQ _ hne;rw[hp]at h1 h2 h3 h5
 simp only at h1 h2 h3 h5;rw[List.length_drop]at h4
 refine⟨h1,by omega,h3.2,by omega,?_,?_⟩
 ·have:=h.len;simp;omega
 ·rw[List.append_assoc,List.singleton_append,←List.drop_drop,←h5];exact h.out
theorem qE.done {L:List UInt8}{k:Nat}{rs:List Nat}(h:qE L k rs)(hk:L.length≤k):rs=fJ L:=by
 have:=h.out;rw[List.drop_eq_nil_of_le hk,yC,List.append_nil]at this
 exact this
def aCE (L:List UInt8)(w:World)(e:Ending)(w':World):Prop:=∃v,e=.returned v∧aT w.heap.size 21 1 v (fJ L).length ((fJ L).map oG) w w'
theorem aHP (g off cap:Nat)(L:List UInt8)(w:World)(hB:Hid (bP w g off L))(hg:g<w.heap.size)(hL:L.length≤1000000000) :
  Calls Tryz.prog 78 #[.slice (some ⟨g,off,none⟩) L.length cap] w (aCE L w):=by
 obtain⟨i0,hi,hz0,hz1,hz2⟩:=info_parts Tryz.info21;go_enter Tryz.func78,Tryz.ntmps78
 go_wp2
 go_loopw [3,4] (fun o i wx=>∃(k:Nat) (rs:List Nat),i=.int .i64 k∧Hid (qE L k rs)∧Hid (aT w.heap.size 21 1 o rs.length (rs.map oG) w wx)) (fun _ i _=>L.length-(intOf i).toNat)
 case atStart=>exact⟨0,[],rfl,hid (qE.start L),hid (aT.nil w 21 1)⟩
 case round =>
  obtain⟨k,rs,rfl,hR,hO⟩:=hrel;have hk:=hR.out.le;have hkl:=hR.out.len;rcases Nat.lt_or_ge k L.length with hlt|hge
  ·have hBr:Hid (bP wr g off L):=hB.out.below hO.out.bel hg;obtain⟨n,v,t,hp⟩:∃n v t,pieceU (aO (L.drop k))=(n,v,t):=⟨_,_,_,rfl⟩
   obtain⟨hn1,hn2,hv,hN⟩:=hR.out.next hlt hp;have HN:=hid hN;have HP:=hid hp;clear hp hN;go_wp2_with fail
   refine(aHN g off cap k n v t L wr hBr hlt (by omega) HP).mono ?_;rintro e w' ⟨rfl,rfl⟩;go_wp2_with (at_builtin;refine bY (by rfl) _ _ 85 (by rfl) 21 i0 (.int .i32 0) 1 4 Tryz.underlying85 hi hz0 hz1 hz2 rfl (by decide) _ _ _ rfl hO.out #[.int .i32 v] rfl rfl rfl rfl (by omega) (by omega) ?_)
   intro v' w' hO' _;go_wp2
   go_roundw
   case rel=>exact⟨k+n,rs++[v],by go_num,HN,hid (hO'.out.cast (by simp) (by simp[oG]))⟩
   case measure=>simp[intOf];omega
  ·have HE:=hid (hR.out.done hge);go_wp2
   go_ret;exact⟨_,rfl,by rw[←HE.out];exact hO.out⟩
open Go.RowKit PU8
structure uT (rs:List Nat) (k:Nat) (bs:List UInt8):Prop where
 le:k≤rs.length
 len:bs.length≤4*k
 out:bs=(rs.take k).flatMap cK
theorem uT.start (rs:List Nat):uT rs 0 []:=⟨Nat.zero_le _,Nat.le_refl _,rfl⟩
theorem uT.next {rs:List Nat}{k:Nat}{bs:List UInt8}(h:uT rs k bs)(hk:k<rs.length):uT rs (k+1) (bs++cK rs[k]):=by
 refine⟨hk,?_,?_⟩
 ·have:=h.len;have:=(aCh rs[k]).2;simp;omega
 ·rw[List.take_succ_eq_append_getElem hk,List.flatMap_append,←h.out];simp
theorem aNQ (w:World)(cs:List Value)(E:TypeId):∀j u,cs[j]?=some u→(w.alloc (.cells cs.toArray E)).cell? ((⟨w.heap.size,0,none⟩:Addr).add j)=some u:=by
 intro j u hj;have hadd:(⟨w.heap.size,0,none⟩:Addr).add j=⟨w.heap.size,j,none⟩:=by unfold Addr.add;split<;>simp_all
 rw[hadd,cell_of_row _ _ j cs.toArray E (0,0) (heap_alloc_new w _)];simpa using hj
theorem aDl (L:List UInt8):(Lib.byteCells L).all (fun u=>u.oneCell')=true:=List.all_eq_true.2 (wF L)
theorem aFY (rs:List Nat)(hv:Hid (∀r∈rs,Val r))(hl:rs.length≤1000000000)(v:Value)(w:World)(hV:Hid (jN w v rs.length (rs.map oG))) :
  Calls Tryz.prog 79 #[v] w fun e w'=>e=.returned (.string ⟨(rs.flatMap cK).toArray⟩)∧Below w.heap.size w w':=by
 obtain⟨i0,hi,hz0,hz1,hz2⟩:=info_parts Tryz.info5;obtain⟨a,c,rfl,_⟩:=hV.out;go_enter Tryz.func79,Tryz.ntmps79
 go_wp2
 go_loopw [3,4] (fun o i wx=>∃(k:Nat) (bs:List UInt8),i=.int .i64 k∧Hid (uT rs k bs)∧Hid (aT w.heap.size 5 1 o bs.length (Lib.byteCells bs) w wx)) (fun _ i _=>rs.length-(intOf i).toNat)
 case atStart=>exact⟨0,[],rfl,hid (uT.start rs),hid (aT.nil w 5 1)⟩
 case round =>
  obtain⟨k,bs,rfl,hE,hO⟩:=hrel;have hk:=hE.out.le;have hkl:=hE.out.len;rcases Nat.lt_or_ge k rs.length with hlt|hge
  ·obtain⟨g,off,c',hva,hcell⟩:=(hV.out.below hO.out.bel (Nat.le_refl _)).get k (by simpa using hlt);simp only[Value.slice.injEq,true_and]at hva;obtain⟨rfl,rfl⟩:=hva;rw[List.getElem_map]at hcell
   have hval:=hv.out rs[k] (List.getElem_mem hlt);have HN:=hid (hE.out.next hlt);have hle:=hval.2;have HVAL:=hid hval;have HEL:=hid (aCh rs[k]);generalize rs[k]=r at *
   unfold oG at hcell;clear hval;have hel:=HEL.out.2;go_wp2_with fail
   refine(aJY r HVAL.out wr).mono ?_;rintro e w' ⟨rfl,rfl⟩;go_wp2_with fail
   refine(aHH r hle wr).mono ?_;rintro e w' ⟨rfl,rfl⟩;go_wp2_with (at_builtin;refine qD (by rfl) _ _ 35 (by rfl) 5 i0 (.int .u8 0) 1 1 Tryz.underlying35 hi hz0 hz1 hz2 rfl (by decide) _ _ _ rfl (hO.out.alloc _) ⟨wr.heap.size,0,none⟩ (cK r).length (cK r).length (Lib.byteCells (cK r)) rfl (by rw[jX,Nat.mul_one]) (aNQ wr _ 5) (aDl _) (by omega) (by omega) ?_)
   intro v' w' hO' _;go_wp2
   go_roundw
   case rel=>exact⟨k+1,bs++cK r,by go_num,HN,hid (hO'.out.cast (by simp) (mU _ _))⟩
   case measure=>simp[intOf];omega
  ·have hk':k=rs.length:=by omega
   have hX:bs=rs.flatMap cK:=by
    have:=hE.out.out;rw[hk',List.take_length]at this
    exact this
   have HX:=hid hX;obtain⟨a1,c1,rfl,_,_⟩:=hO.out.slice;have hcv:=pX (P:=Tryz.prog) wr 35 5 9 Tryz.underlying35 Tryz.underlying5 Tryz.underlying9 a1 bs bs.length c1 rfl (hO.out.isB rfl);clear hX;go_wp2
   go_ret;refine⟨?_,hO.out.bel⟩;rw[HX.out];rfl
end Go.Proofs.YtcfgbdhpcboikaaGreatDoor
