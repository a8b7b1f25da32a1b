/-
internal/strconv.fmtEFG in the form 'e', with just the digits that there are: the ways (one digit or more, the exponent's sign, the exponent's length).
-/
import Derived.Test.YtcfgbdhpcboikaaGreatDoorShortB
namespace Go.Proofs.YtcfgbdhpcboikaaGreatDoor
open Go.Lib (hid)
set_option maxHeartbeats 8000000
set_option maxRecDepth 100000
open Go.RowKit
theorem iN:(Tryz.prog.info? 5).map (fun i=>(i.zero,i.size,i.bytes))=some (some (.int .u8 0),1,1):=by kernel_rfl
theorem wZ:(Tryz.prog.info? 5).map (·.size)=some 1:=by kernel_rfl
theorem nW (x:Nat)(h:x<256):fI (UInt8.ofNat x)=.int .u8 (x:Int):=by
 unfold fI;rw[UInt8.toNat_ofNat_of_lt' (by simpa using h)]
theorem qG (z:Value)(x:Nat)(h:x<256)(hz:z=.int .u8 (x:Int)):(#[.int .u8 48,z]:Array Value)=([48,UInt8.ofNat x].map fI).toArray:=by
 rw[List.map_cons,List.map_cons,List.map_nil,nW x h,hz];rfl
theorem rS (z1 z2:Value)(x y:Nat)(hx:x<256)(hy:y<256)(h1:z1=.int .u8 (x:Int))(h2:z2=.int .u8 (y:Int)):(#[z1,z2]:Array Value)=([UInt8.ofNat x,UInt8.ofNat y].map fI).toArray:=by
 rw[List.map_cons,List.map_cons,List.map_nil,nW x hx,nW y hy,h1,h2]
theorem oH (z1 z2 z3:Value)(x y z:Nat)(hx:x<256)(hy:y<256)(hz:z<256)(h1:z1=.int .u8 (x:Int))(h2:z2=.int .u8 (y:Int))(h3:z3=.int .u8 (z:Int)):(#[z1,z2,z3]:Array Value)=([UInt8.ofNat x,UInt8.ofNat y,UInt8.ofNat z].map fI).toArray:=by
 rw[List.map_cons,List.map_cons,List.map_cons,List.map_nil,nW x hx,nW y hy,nW z hz,h1,h2,h3]
theorem fD {a:Option Addr}{n m c:Nat}(h:n=m):Ending.returned (.slice a n c)=.returned (.slice a m c):=by rw[h]
def fU (w:World)(B:Nat)(S:Nat→Prop)(bs:List UInt8)(e:Ending)(w':World):Prop :=
 ∃ad c,e=.returned (.slice ad bs.length c)∧Out w w' B S ad c bs
theorem aA6 (w:World)(B g:Nat)(ad:Option Addr)(c:Nat)(S:Nat→Prop)(d:UInt8)(dp:Int)(x:Nat)(hO:Out w w B S ad c [])(hI:IsB w (some ⟨g,0,none⟩) [d])
  (hx:dp-1=(x:Int)) (x2:x<10) (_d1:-2000≤dp) (_d2:dp≤2000) :
  Calls Tryz.prog 257 #[.slice ad 0 c,.bool false,.slice (some ⟨g,0,none⟩) 32 32,.int .i64 dp,.int .i64 1,.int .i64 0,.int .u8 101,.bool true] w (fU w B S (d :: [101,43]++aU x)):=by
 obtain⟨i0,hi,hz0,hz1,hz2⟩:=info_parts iN;have Hi:=hid hi;have Hz0:=hid hz0;have Hz1:=hid hz1;have Hz2:=hid hz2;have HO:=hid hO;have HI:=hid hI;have hc0:w.cell? ⟨g,0,none⟩=some (.int .u8 d.toNat):=by
  obtain⟨x,hx,hc⟩:=hI 0 d rfl;cases hx;exact hc
 clear hi hz0 hz1 hz2 hO hI;go_enter Tryz.func257,Tryz.ntmps257
 go_wp2_with (first
  | (at_builtin;refine aB (by rfl) (.tmp 87) (.tmp 89) 35 (by rfl) i0 Tryz.underlying35 Hi.out Hz0.out Hz1.out Hz2.out _ _ _ _ (by rfl) rfl HO.out 1 1 [d] _ (by rfl) (by rfl) (by rfl) rfl (by simp;try omega) ?_;intro ad1 c1 w1 O1)
  | (at_builtin;refine aB (by rfl) (.tmp 120) (.tmp 122) 35 (by rfl) i0 Tryz.underlying35 Hi.out Hz0.out Hz1.out Hz2.out _ _ _ _ (by rfl) rfl O1.out 1 1 [101] _ (by rfl) (by rfl) (by rfl) rfl (by simp;try omega) ?_;intro ad4 c4 w4 O4)
  | (at_builtin;refine aB (by rfl) (.tmp 132) (.tmp 134) 35 (by rfl) i0 Tryz.underlying35 Hi.out Hz0.out Hz1.out Hz2.out _ _ _ _ (by rfl) rfl O4.out 1 1 [43] _ (by rfl) (by rfl) (by rfl) rfl (by simp;try omega) ?_;intro ad5 c5 w5 O5)
  | (at_builtin;refine aB (by rfl) (.tmp 155) (.tmp 159) 35 (by rfl) i0 Tryz.underlying35 Hi.out Hz0.out Hz1.out Hz2.out _ _ _ _ (by rfl) rfl O5.out 2 2 [48,UInt8.ofNat (x+48)] _ (by rfl) (qG _ (x+48) (by omega) (by rfl)) (by rfl) rfl (by simp;try omega) ?_;intro ad6 c6 w6 O6))
 go_ret;have e:aU x=[48,UInt8.ofNat (x+48)]:=by unfold aU;rw[if_pos x2]
 refine⟨ad6,c6,fD ?_,?_⟩
 ·rw[e];rfl
 ·have:=O6.out;rw[e];simpa using this
theorem aBA (w:World)(B g:Nat)(ad:Option Addr)(c:Nat)(S:Nat→Prop)(d:UInt8)(dp:Int)(x:Nat)(hO:Out w w B S ad c [])(hI:IsB w (some ⟨g,0,none⟩) [d])
  (hx:dp-1=(x:Int)) (x1:10≤x) (x2:x<100) (_d1:-2000≤dp) (_d2:dp≤2000) :
  Calls Tryz.prog 257 #[.slice ad 0 c,.bool false,.slice (some ⟨g,0,none⟩) 32 32,.int .i64 dp,.int .i64 1,.int .i64 0,.int .u8 101,.bool true] w (fU w B S (d :: [101,43]++aU x)):=by
 obtain⟨i0,hi,hz0,hz1,hz2⟩:=info_parts iN;have Hi:=hid hi;have Hz0:=hid hz0;have Hz1:=hid hz1;have Hz2:=hid hz2;have HO:=hid hO;have HI:=hid hI;have hc0:w.cell? ⟨g,0,none⟩=some (.int .u8 d.toNat):=by
  obtain⟨x,hx,hc⟩:=hI 0 d rfl;cases hx;exact hc
 clear hi hz0 hz1 hz2 hO hI;go_enter Tryz.func257,Tryz.ntmps257
 go_wp2_with (first
  | (at_builtin;refine aB (by rfl) (.tmp 87) (.tmp 89) 35 (by rfl) i0 Tryz.underlying35 Hi.out Hz0.out Hz1.out Hz2.out _ _ _ _ (by rfl) rfl HO.out 1 1 [d] _ (by rfl) (by rfl) (by rfl) rfl (by simp;try omega) ?_;intro ad1 c1 w1 O1)
  | (at_builtin;refine aB (by rfl) (.tmp 120) (.tmp 122) 35 (by rfl) i0 Tryz.underlying35 Hi.out Hz0.out Hz1.out Hz2.out _ _ _ _ (by rfl) rfl O1.out 1 1 [101] _ (by rfl) (by rfl) (by rfl) rfl (by simp;try omega) ?_;intro ad4 c4 w4 O4)
  | (at_builtin;refine aB (by rfl) (.tmp 132) (.tmp 134) 35 (by rfl) i0 Tryz.underlying35 Hi.out Hz0.out Hz1.out Hz2.out _ _ _ _ (by rfl) rfl O4.out 1 1 [43] _ (by rfl) (by rfl) (by rfl) rfl (by simp;try omega) ?_;intro ad5 c5 w5 O5)
  | (at_builtin;refine aB (by rfl) (.tmp 164) (.tmp 173) 35 (by rfl) i0 Tryz.underlying35 Hi.out Hz0.out Hz1.out Hz2.out _ _ _ _ (by rfl) rfl O5.out 2 2 [UInt8.ofNat (x / 10+48),UInt8.ofNat (x%10+48)] _ (by rfl) (rS _ _ (x / 10+48) (x%10+48) (by omega) (by omega) (by rfl) (by rfl)) (by rfl) rfl (by simp;try omega) ?_;intro ad6 c6 w6 O6))
 go_ret;have e:aU x=[UInt8.ofNat (x / 10+48),UInt8.ofNat (x%10+48)]:=by unfold aU;rw[if_neg (by omega),if_pos x2]
 refine⟨ad6,c6,fD ?_,?_⟩
 ·rw[e];rfl
 ·have:=O6.out;rw[e];simpa using this
theorem aBe (w:World)(B g:Nat)(ad:Option Addr)(c:Nat)(S:Nat→Prop)(d:UInt8)(dp:Int)(x:Nat)(hO:Out w w B S ad c [])(hI:IsB w (some ⟨g,0,none⟩) [d])
  (hx:dp-1=(x:Int)) (x1:100≤x) (x2:x<1000) (_d1:-2000≤dp) (_d2:dp≤2000) :
  Calls Tryz.prog 257 #[.slice ad 0 c,.bool false,.slice (some ⟨g,0,none⟩) 32 32,.int .i64 dp,.int .i64 1,.int .i64 0,.int .u8 101,.bool true] w (fU w B S (d :: [101,43]++aU x)):=by
 obtain⟨i0,hi,hz0,hz1,hz2⟩:=info_parts iN;have Hi:=hid hi;have Hz0:=hid hz0;have Hz1:=hid hz1;have Hz2:=hid hz2;have HO:=hid hO;have HI:=hid hI;have hc0:w.cell? ⟨g,0,none⟩=some (.int .u8 d.toNat):=by
  obtain⟨x,hx,hc⟩:=hI 0 d rfl;cases hx;exact hc
 clear hi hz0 hz1 hz2 hO hI;go_enter Tryz.func257,Tryz.ntmps257
 go_wp2_with (first
  | (at_builtin;refine aB (by rfl) (.tmp 87) (.tmp 89) 35 (by rfl) i0 Tryz.underlying35 Hi.out Hz0.out Hz1.out Hz2.out _ _ _ _ (by rfl) rfl HO.out 1 1 [d] _ (by rfl) (by rfl) (by rfl) rfl (by simp;try omega) ?_;intro ad1 c1 w1 O1)
  | (at_builtin;refine aB (by rfl) (.tmp 120) (.tmp 122) 35 (by rfl) i0 Tryz.underlying35 Hi.out Hz0.out Hz1.out Hz2.out _ _ _ _ (by rfl) rfl O1.out 1 1 [101] _ (by rfl) (by rfl) (by rfl) rfl (by simp;try omega) ?_;intro ad4 c4 w4 O4)
  | (at_builtin;refine aB (by rfl) (.tmp 132) (.tmp 134) 35 (by rfl) i0 Tryz.underlying35 Hi.out Hz0.out Hz1.out Hz2.out _ _ _ _ (by rfl) rfl O4.out 1 1 [43] _ (by rfl) (by rfl) (by rfl) rfl (by simp;try omega) ?_;intro ad5 c5 w5 O5)
  | (at_builtin;refine aB (by rfl) (.tmp 136) (.tmp 150) 35 (by rfl) i0 Tryz.underlying35 Hi.out Hz0.out Hz1.out Hz2.out _ _ _ _ (by rfl) rfl O5.out 3 3 [UInt8.ofNat (x / 100+48),UInt8.ofNat (x / 10%10+48),UInt8.ofNat (x%10+48)] _ (by rfl) (oH _ _ _ (x / 100+48) (x / 10%10+48) (x%10+48) (by omega) (by omega) (by omega) (by rfl) (by rfl) (by rfl)) (by rfl) rfl (by simp;try omega) ?_;intro ad6 c6 w6 O6))
 go_ret;have e:aU x=[UInt8.ofNat (x / 100+48),UInt8.ofNat (x / 10%10+48),UInt8.ofNat (x%10+48)]:=by unfold aU;rw[if_neg (by omega),if_neg (by omega)]
 refine⟨ad6,c6,fD ?_,?_⟩
 ·rw[e];rfl
 ·have:=O6.out;rw[e];simpa using this
theorem aBy (w:World)(B g:Nat)(ad:Option Addr)(c:Nat)(S:Nat→Prop)(d:UInt8)(dp:Int)(x:Nat)(hO:Out w w B S ad c [])(hI:IsB w (some ⟨g,0,none⟩) [d])
  (hx:dp-1=-(x:Int)) (x0:1≤x) (x2:x<10) (_d1:-2000≤dp) (_d2:dp≤2000) :
  Calls Tryz.prog 257 #[.slice ad 0 c,.bool false,.slice (some ⟨g,0,none⟩) 32 32,.int .i64 dp,.int .i64 1,.int .i64 0,.int .u8 101,.bool true] w (fU w B S (d :: [101,45]++aU x)):=by
 obtain⟨i0,hi,hz0,hz1,hz2⟩:=info_parts iN;have Hi:=hid hi;have Hz0:=hid hz0;have Hz1:=hid hz1;have Hz2:=hid hz2;have HO:=hid hO;have HI:=hid hI;have hc0:w.cell? ⟨g,0,none⟩=some (.int .u8 d.toNat):=by
  obtain⟨x,hx,hc⟩:=hI 0 d rfl;cases hx;exact hc
 clear hi hz0 hz1 hz2 hO hI;go_enter Tryz.func257,Tryz.ntmps257
 go_wp2_with (first
  | (at_builtin;refine aB (by rfl) (.tmp 87) (.tmp 89) 35 (by rfl) i0 Tryz.underlying35 Hi.out Hz0.out Hz1.out Hz2.out _ _ _ _ (by rfl) rfl HO.out 1 1 [d] _ (by rfl) (by rfl) (by rfl) rfl (by simp;try omega) ?_;intro ad1 c1 w1 O1)
  | (at_builtin;refine aB (by rfl) (.tmp 120) (.tmp 122) 35 (by rfl) i0 Tryz.underlying35 Hi.out Hz0.out Hz1.out Hz2.out _ _ _ _ (by rfl) rfl O1.out 1 1 [101] _ (by rfl) (by rfl) (by rfl) rfl (by simp;try omega) ?_;intro ad4 c4 w4 O4)
  | (at_builtin;refine aB (by rfl) (.tmp 132) (.tmp 134) 35 (by rfl) i0 Tryz.underlying35 Hi.out Hz0.out Hz1.out Hz2.out _ _ _ _ (by rfl) rfl O4.out 1 1 [45] _ (by rfl) (by rfl) (by rfl) rfl (by simp;try omega) ?_;intro ad5 c5 w5 O5)
  | (at_builtin;refine aB (by rfl) (.tmp 155) (.tmp 159) 35 (by rfl) i0 Tryz.underlying35 Hi.out Hz0.out Hz1.out Hz2.out _ _ _ _ (by rfl) rfl O5.out 2 2 [48,UInt8.ofNat (x+48)] _ (by rfl) (qG _ (x+48) (by omega) (by rfl)) (by rfl) rfl (by simp;try omega) ?_;intro ad6 c6 w6 O6))
 go_ret;have e:aU x=[48,UInt8.ofNat (x+48)]:=by unfold aU;rw[if_pos x2]
 refine⟨ad6,c6,fD ?_,?_⟩
 ·rw[e];rfl
 ·have:=O6.out;rw[e];simpa using this
theorem aBp (w:World)(B g:Nat)(ad:Option Addr)(c:Nat)(S:Nat→Prop)(d:UInt8)(dp:Int)(x:Nat)(hO:Out w w B S ad c [])(hI:IsB w (some ⟨g,0,none⟩) [d])
  (hx:dp-1=-(x:Int)) (x0:1≤x) (x1:10≤x) (x2:x<100) (_d1:-2000≤dp) (_d2:dp≤2000) :
  Calls Tryz.prog 257 #[.slice ad 0 c,.bool false,.slice (some ⟨g,0,none⟩) 32 32,.int .i64 dp,.int .i64 1,.int .i64 0,.int .u8 101,.bool true] w (fU w B S (d :: [101,45]++aU x)):=by
 obtain⟨i0,hi,hz0,hz1,hz2⟩:=info_parts iN;have Hi:=hid hi;have Hz0:=hid hz0;have Hz1:=hid hz1;have Hz2:=hid hz2;have HO:=hid hO;have HI:=hid hI;have hc0:w.cell? ⟨g,0,none⟩=some (.int .u8 d.toNat):=by
  obtain⟨x,hx,hc⟩:=hI 0 d rfl;cases hx;exact hc
 clear hi hz0 hz1 hz2 hO hI;go_enter Tryz.func257,Tryz.ntmps257
 go_wp2_with (first
  | (at_builtin;refine aB (by rfl) (.tmp 87) (.tmp 89) 35 (by rfl) i0 Tryz.underlying35 Hi.out Hz0.out Hz1.out Hz2.out _ _ _ _ (by rfl) rfl HO.out 1 1 [d] _ (by rfl) (by rfl) (by rfl) rfl (by simp;try omega) ?_;intro ad1 c1 w1 O1)
  | (at_builtin;refine aB (by rfl) (.tmp 120) (.tmp 122) 35 (by rfl) i0 Tryz.underlying35 Hi.out Hz0.out Hz1.out Hz2.out _ _ _ _ (by rfl) rfl O1.out 1 1 [101] _ (by rfl) (by rfl) (by rfl) rfl (by simp;try omega) ?_;intro ad4 c4 w4 O4)
  | (at_builtin;refine aB (by rfl) (.tmp 132) (.tmp 134) 35 (by rfl) i0 Tryz.underlying35 Hi.out Hz0.out Hz1.out Hz2.out _ _ _ _ (by rfl) rfl O4.out 1 1 [45] _ (by rfl) (by rfl) (by rfl) rfl (by simp;try omega) ?_;intro ad5 c5 w5 O5)
  | (at_builtin;refine aB (by rfl) (.tmp 164) (.tmp 173) 35 (by rfl) i0 Tryz.underlying35 Hi.out Hz0.out Hz1.out Hz2.out _ _ _ _ (by rfl) rfl O5.out 2 2 [UInt8.ofNat (x / 10+48),UInt8.ofNat (x%10+48)] _ (by rfl) (rS _ _ (x / 10+48) (x%10+48) (by omega) (by omega) (by rfl) (by rfl)) (by rfl) rfl (by simp;try omega) ?_;intro ad6 c6 w6 O6))
 go_ret;have e:aU x=[UInt8.ofNat (x / 10+48),UInt8.ofNat (x%10+48)]:=by unfold aU;rw[if_neg (by omega),if_pos x2]
 refine⟨ad6,c6,fD ?_,?_⟩
 ·rw[e];rfl
 ·have:=O6.out;rw[e];simpa using this
theorem aBk (w:World)(B g:Nat)(ad:Option Addr)(c:Nat)(S:Nat→Prop)(d:UInt8)(dp:Int)(x:Nat)(hO:Out w w B S ad c [])(hI:IsB w (some ⟨g,0,none⟩) [d])
  (hx:dp-1=-(x:Int)) (x0:1≤x) (x1:100≤x) (x2:x<1000) (_d1:-2000≤dp) (_d2:dp≤2000) :
  Calls Tryz.prog 257 #[.slice ad 0 c,.bool false,.slice (some ⟨g,0,none⟩) 32 32,.int .i64 dp,.int .i64 1,.int .i64 0,.int .u8 101,.bool true] w (fU w B S (d :: [101,45]++aU x)):=by
 obtain⟨i0,hi,hz0,hz1,hz2⟩:=info_parts iN;have Hi:=hid hi;have Hz0:=hid hz0;have Hz1:=hid hz1;have Hz2:=hid hz2;have HO:=hid hO;have HI:=hid hI;have hc0:w.cell? ⟨g,0,none⟩=some (.int .u8 d.toNat):=by
  obtain⟨x,hx,hc⟩:=hI 0 d rfl;cases hx;exact hc
 clear hi hz0 hz1 hz2 hO hI;go_enter Tryz.func257,Tryz.ntmps257
 go_wp2_with (first
  | (at_builtin;refine aB (by rfl) (.tmp 87) (.tmp 89) 35 (by rfl) i0 Tryz.underlying35 Hi.out Hz0.out Hz1.out Hz2.out _ _ _ _ (by rfl) rfl HO.out 1 1 [d] _ (by rfl) (by rfl) (by rfl) rfl (by simp;try omega) ?_;intro ad1 c1 w1 O1)
  | (at_builtin;refine aB (by rfl) (.tmp 120) (.tmp 122) 35 (by rfl) i0 Tryz.underlying35 Hi.out Hz0.out Hz1.out Hz2.out _ _ _ _ (by rfl) rfl O1.out 1 1 [101] _ (by rfl) (by rfl) (by rfl) rfl (by simp;try omega) ?_;intro ad4 c4 w4 O4)
  | (at_builtin;refine aB (by rfl) (.tmp 132) (.tmp 134) 35 (by rfl) i0 Tryz.underlying35 Hi.out Hz0.out Hz1.out Hz2.out _ _ _ _ (by rfl) rfl O4.out 1 1 [45] _ (by rfl) (by rfl) (by rfl) rfl (by simp;try omega) ?_;intro ad5 c5 w5 O5)
  | (at_builtin;refine aB (by rfl) (.tmp 136) (.tmp 150) 35 (by rfl) i0 Tryz.underlying35 Hi.out Hz0.out Hz1.out Hz2.out _ _ _ _ (by rfl) rfl O5.out 3 3 [UInt8.ofNat (x / 100+48),UInt8.ofNat (x / 10%10+48),UInt8.ofNat (x%10+48)] _ (by rfl) (oH _ _ _ (x / 100+48) (x / 10%10+48) (x%10+48) (by omega) (by omega) (by omega) (by rfl) (by rfl) (by rfl)) (by rfl) rfl (by simp;try omega) ?_;intro ad6 c6 w6 O6))
 go_ret;have e:aU x=[UInt8.ofNat (x / 100+48),UInt8.ofNat (x / 10%10+48),UInt8.ofNat (x%10+48)]:=by unfold aU;rw[if_neg (by omega),if_neg (by omega)]
 refine⟨ad6,c6,fD ?_,?_⟩
 ·rw[e];rfl
 ·have:=O6.out;rw[e];simpa using this
theorem aAP (w:World)(B g k:Nat)(ad:Option Addr)(c:Nat)(S:Nat→Prop)(d:UInt8)(D:List UInt8)(dp:Int)(x:Nat)(hO:Out w w B S ad c [])(hI:IsB w (some ⟨g,0,none⟩) (d :: D))(hg:¬S g)(_hgs:g<w.heap.size)
  (hk:D.length=k) (k1:1≤k) (k2:k≤20) (hx:dp-1=(x:Int)) (x2:x<10) (_d1:-2000≤dp) (_d2:dp≤2000) :
  Calls Tryz.prog 257 #[.slice ad 0 c,.bool false,.slice (some ⟨g,0,none⟩) 32 32,.int .i64 dp,.int .i64 ((k:Int)+1),.int .i64 k,.int .u8 101,.bool true] w (fU w B S (d :: 46 :: D++[101,43]++aU x)):=by
 obtain⟨i0,hi,hz0,hz1,hz2⟩:=info_parts iN;have Hi:=hid hi;have Hz0:=hid hz0;have Hz1:=hid hz1;have Hz2:=hid hz2;have HO:=hid hO;have HI:=hid hI;have hc0:w.cell? ⟨g,0,none⟩=some (.int .u8 d.toNat):=by
  obtain⟨x,hx,hc⟩:=hI 0 d rfl;cases hx;exact hc
 clear hi hz0 hz1 hz2 hO hI;have hcut:∀w,(Instr.slice 35 (.slice (some ⟨g,0,none⟩) 32 32) (some (.int .i64 1)) (some (.int .i64 ((k:Int)+1))) none).run Tryz.prog w=.ok (.slice (some ⟨g,1,none⟩) k 31) w:=by
  intro w;have:=jF 35 5 Tryz.underlying35 wZ w (some ⟨g,0,none⟩) 32 32 1 (k+1) (by omega) (by omega);exact this
 have f1:(((k:Int)+1)==0)=false:=beq_eq_false_iff_ne.2 (by omega);have f2:(((k:Int)+1) !=0)=true:=bne_iff_ne.2 (by omega);have HK:=hid hk;clear hk;go_enter Tryz.func257,Tryz.ntmps257
 go_wp2_with (first
  | (at_builtin;refine aB (by rfl) (.tmp 87) (.tmp 89) 35 (by rfl) i0 Tryz.underlying35 Hi.out Hz0.out Hz1.out Hz2.out _ _ _ _ (by rfl) rfl HO.out 1 1 [d] _ (by rfl) (by rfl) (by rfl) rfl (by have hkk:=HK.out;simp;try omega) ?_;intro ad1 c1 w1 O1)
  | (at_builtin;refine aB (by rfl) (.tmp 93) (.tmp 94) 35 (by rfl) i0 Tryz.underlying35 Hi.out Hz0.out Hz1.out Hz2.out _ _ _ _ (by rfl) rfl O1.out 1 1 [46] _ (by rfl) (by rfl) (by rfl) rfl (by have hkk:=HK.out;simp;try omega) ?_;intro ad2 c2 w2 O2)
  | (at_builtin;refine eP (by rfl) (.tmp 103) (.tmp 107) 35 (by rfl) i0 Tryz.underlying35 Hi.out Hz0.out Hz1.out Hz2.out _ _ _ _ (by rfl) rfl O2.out (some ⟨g,1,none⟩) k 31 D (by rfl) HK.out ?src (by have hkk:=HK.out;simp;try omega) ?_;rotate_left;intro ad3 c3 w3 O3))
 case src=>exact(show IsB w2 (some ⟨g,1,none⟩) D from IsB.cut (IsB.kept HI.out O2.out.kept (fun y hy _=>by cases hy;exact hg)) 1 32 (by have hkk:=HK.out;simp;omega))
 refine wp_loop_rounds 1 ?_;rw[rounds_succ];go_wp2_with (first
  | (at_builtin;refine aB (by rfl) (.tmp 120) (.tmp 122) 35 (by rfl) i0 Tryz.underlying35 Hi.out Hz0.out Hz1.out Hz2.out _ _ _ _ (by rfl) (by have:=HK.out;simp;omega) O3.out 1 1 [101] _ (by rfl) (by rfl) (by rfl) rfl (by have hkk:=HK.out;simp;try omega) ?_;intro ad4 c4 w4 O4)
  | (at_builtin;refine aB (by rfl) (.tmp 132) (.tmp 134) 35 (by rfl) i0 Tryz.underlying35 Hi.out Hz0.out Hz1.out Hz2.out _ _ _ _ (by rfl) (by have:=HK.out;simp;omega) O4.out 1 1 [43] _ (by rfl) (by rfl) (by rfl) rfl (by have hkk:=HK.out;simp;try omega) ?_;intro ad5 c5 w5 O5)
  | (at_builtin;refine aB (by rfl) (.tmp 155) (.tmp 159) 35 (by rfl) i0 Tryz.underlying35 Hi.out Hz0.out Hz1.out Hz2.out _ _ _ _ (by rfl) (by have:=HK.out;simp;omega) O5.out 2 2 [48,UInt8.ofNat (x+48)] _ (by rfl) (qG _ (x+48) (by omega) (by rfl)) (by rfl) rfl (by have hkk:=HK.out;simp;try omega) ?_;intro ad6 c6 w6 O6))
 go_ret;have e:aU x=[48,UInt8.ofNat (x+48)]:=by unfold aU;rw[if_pos x2]
 refine⟨ad6,c6,fD ?_,?_⟩
 ·rw[e];have hkk:=HK.out;simp;try omega
 ·have:=O6.out;rw[e];simpa using this
theorem aAd (w:World)(B g k:Nat)(ad:Option Addr)(c:Nat)(S:Nat→Prop)(d:UInt8)(D:List UInt8)(dp:Int)(x:Nat)(hO:Out w w B S ad c [])(hI:IsB w (some ⟨g,0,none⟩) (d :: D))(hg:¬S g)(_hgs:g<w.heap.size)
  (hk:D.length=k) (k1:1≤k) (k2:k≤20) (hx:dp-1=(x:Int)) (x1:10≤x) (x2:x<100) (_d1:-2000≤dp) (_d2:dp≤2000) :
  Calls Tryz.prog 257 #[.slice ad 0 c,.bool false,.slice (some ⟨g,0,none⟩) 32 32,.int .i64 dp,.int .i64 ((k:Int)+1),.int .i64 k,.int .u8 101,.bool true] w (fU w B S (d :: 46 :: D++[101,43]++aU x)):=by
 obtain⟨i0,hi,hz0,hz1,hz2⟩:=info_parts iN;have Hi:=hid hi;have Hz0:=hid hz0;have Hz1:=hid hz1;have Hz2:=hid hz2;have HO:=hid hO;have HI:=hid hI;have hc0:w.cell? ⟨g,0,none⟩=some (.int .u8 d.toNat):=by
  obtain⟨x,hx,hc⟩:=hI 0 d rfl;cases hx;exact hc
 clear hi hz0 hz1 hz2 hO hI;have hcut:∀w,(Instr.slice 35 (.slice (some ⟨g,0,none⟩) 32 32) (some (.int .i64 1)) (some (.int .i64 ((k:Int)+1))) none).run Tryz.prog w=.ok (.slice (some ⟨g,1,none⟩) k 31) w:=by
  intro w;have:=jF 35 5 Tryz.underlying35 wZ w (some ⟨g,0,none⟩) 32 32 1 (k+1) (by omega) (by omega);exact this
 have f1:(((k:Int)+1)==0)=false:=beq_eq_false_iff_ne.2 (by omega);have f2:(((k:Int)+1) !=0)=true:=bne_iff_ne.2 (by omega);have HK:=hid hk;clear hk;go_enter Tryz.func257,Tryz.ntmps257
 go_wp2_with (first
  | (at_builtin;refine aB (by rfl) (.tmp 87) (.tmp 89) 35 (by rfl) i0 Tryz.underlying35 Hi.out Hz0.out Hz1.out Hz2.out _ _ _ _ (by rfl) rfl HO.out 1 1 [d] _ (by rfl) (by rfl) (by rfl) rfl (by have hkk:=HK.out;simp;try omega) ?_;intro ad1 c1 w1 O1)
  | (at_builtin;refine aB (by rfl) (.tmp 93) (.tmp 94) 35 (by rfl) i0 Tryz.underlying35 Hi.out Hz0.out Hz1.out Hz2.out _ _ _ _ (by rfl) rfl O1.out 1 1 [46] _ (by rfl) (by rfl) (by rfl) rfl (by have hkk:=HK.out;simp;try omega) ?_;intro ad2 c2 w2 O2)
  | (at_builtin;refine eP (by rfl) (.tmp 103) (.tmp 107) 35 (by rfl) i0 Tryz.underlying35 Hi.out Hz0.out Hz1.out Hz2.out _ _ _ _ (by rfl) rfl O2.out (some ⟨g,1,none⟩) k 31 D (by rfl) HK.out ?src (by have hkk:=HK.out;simp;try omega) ?_;rotate_left;intro ad3 c3 w3 O3))
 case src=>exact(show IsB w2 (some ⟨g,1,none⟩) D from IsB.cut (IsB.kept HI.out O2.out.kept (fun y hy _=>by cases hy;exact hg)) 1 32 (by have hkk:=HK.out;simp;omega))
 refine wp_loop_rounds 1 ?_;rw[rounds_succ];go_wp2_with (first
  | (at_builtin;refine aB (by rfl) (.tmp 120) (.tmp 122) 35 (by rfl) i0 Tryz.underlying35 Hi.out Hz0.out Hz1.out Hz2.out _ _ _ _ (by rfl) (by have:=HK.out;simp;omega) O3.out 1 1 [101] _ (by rfl) (by rfl) (by rfl) rfl (by have hkk:=HK.out;simp;try omega) ?_;intro ad4 c4 w4 O4)
  | (at_builtin;refine aB (by rfl) (.tmp 132) (.tmp 134) 35 (by rfl) i0 Tryz.underlying35 Hi.out Hz0.out Hz1.out Hz2.out _ _ _ _ (by rfl) (by have:=HK.out;simp;omega) O4.out 1 1 [43] _ (by rfl) (by rfl) (by rfl) rfl (by have hkk:=HK.out;simp;try omega) ?_;intro ad5 c5 w5 O5)
  | (at_builtin;refine aB (by rfl) (.tmp 164) (.tmp 173) 35 (by rfl) i0 Tryz.underlying35 Hi.out Hz0.out Hz1.out Hz2.out _ _ _ _ (by rfl) (by have:=HK.out;simp;omega) O5.out 2 2 [UInt8.ofNat (x / 10+48),UInt8.ofNat (x%10+48)] _ (by rfl) (rS _ _ (x / 10+48) (x%10+48) (by omega) (by omega) (by rfl) (by rfl)) (by rfl) rfl (by have hkk:=HK.out;simp;try omega) ?_;intro ad6 c6 w6 O6))
 go_ret;have e:aU x=[UInt8.ofNat (x / 10+48),UInt8.ofNat (x%10+48)]:=by unfold aU;rw[if_neg (by omega),if_pos x2]
 refine⟨ad6,c6,fD ?_,?_⟩
 ·rw[e];have hkk:=HK.out;simp;try omega
 ·have:=O6.out;rw[e];simpa using this
theorem aAX (w:World)(B g k:Nat)(ad:Option Addr)(c:Nat)(S:Nat→Prop)(d:UInt8)(D:List UInt8)(dp:Int)(x:Nat)(hO:Out w w B S ad c [])(hI:IsB w (some ⟨g,0,none⟩) (d :: D))(hg:¬S g)(_hgs:g<w.heap.size)
  (hk:D.length=k) (k1:1≤k) (k2:k≤20) (hx:dp-1=(x:Int)) (x1:100≤x) (x2:x<1000) (_d1:-2000≤dp) (_d2:dp≤2000) :
  Calls Tryz.prog 257 #[.slice ad 0 c,.bool false,.slice (some ⟨g,0,none⟩) 32 32,.int .i64 dp,.int .i64 ((k:Int)+1),.int .i64 k,.int .u8 101,.bool true] w (fU w B S (d :: 46 :: D++[101,43]++aU x)):=by
 obtain⟨i0,hi,hz0,hz1,hz2⟩:=info_parts iN;have Hi:=hid hi;have Hz0:=hid hz0;have Hz1:=hid hz1;have Hz2:=hid hz2;have HO:=hid hO;have HI:=hid hI;have hc0:w.cell? ⟨g,0,none⟩=some (.int .u8 d.toNat):=by
  obtain⟨x,hx,hc⟩:=hI 0 d rfl;cases hx;exact hc
 clear hi hz0 hz1 hz2 hO hI;have hcut:∀w,(Instr.slice 35 (.slice (some ⟨g,0,none⟩) 32 32) (some (.int .i64 1)) (some (.int .i64 ((k:Int)+1))) none).run Tryz.prog w=.ok (.slice (some ⟨g,1,none⟩) k 31) w:=by
  intro w;have:=jF 35 5 Tryz.underlying35 wZ w (some ⟨g,0,none⟩) 32 32 1 (k+1) (by omega) (by omega);exact this
 have f1:(((k:Int)+1)==0)=false:=beq_eq_false_iff_ne.2 (by omega);have f2:(((k:Int)+1) !=0)=true:=bne_iff_ne.2 (by omega);have HK:=hid hk;clear hk;go_enter Tryz.func257,Tryz.ntmps257
 go_wp2_with (first
  | (at_builtin;refine aB (by rfl) (.tmp 87) (.tmp 89) 35 (by rfl) i0 Tryz.underlying35 Hi.out Hz0.out Hz1.out Hz2.out _ _ _ _ (by rfl) rfl HO.out 1 1 [d] _ (by rfl) (by rfl) (by rfl) rfl (by have hkk:=HK.out;simp;try omega) ?_;intro ad1 c1 w1 O1)
  | (at_builtin;refine aB (by rfl) (.tmp 93) (.tmp 94) 35 (by rfl) i0 Tryz.underlying35 Hi.out Hz0.out Hz1.out Hz2.out _ _ _ _ (by rfl) rfl O1.out 1 1 [46] _ (by rfl) (by rfl) (by rfl) rfl (by have hkk:=HK.out;simp;try omega) ?_;intro ad2 c2 w2 O2)
  | (at_builtin;refine eP (by rfl) (.tmp 103) (.tmp 107) 35 (by rfl) i0 Tryz.underlying35 Hi.out Hz0.out Hz1.out Hz2.out _ _ _ _ (by rfl) rfl O2.out (some ⟨g,1,none⟩) k 31 D (by rfl) HK.out ?src (by have hkk:=HK.out;simp;try omega) ?_;rotate_left;intro ad3 c3 w3 O3))
 case src=>exact(show IsB w2 (some ⟨g,1,none⟩) D from IsB.cut (IsB.kept HI.out O2.out.kept (fun y hy _=>by cases hy;exact hg)) 1 32 (by have hkk:=HK.out;simp;omega))
 refine wp_loop_rounds 1 ?_;rw[rounds_succ];go_wp2_with (first
  | (at_builtin;refine aB (by rfl) (.tmp 120) (.tmp 122) 35 (by rfl) i0 Tryz.underlying35 Hi.out Hz0.out Hz1.out Hz2.out _ _ _ _ (by rfl) (by have:=HK.out;simp;omega) O3.out 1 1 [101] _ (by rfl) (by rfl) (by rfl) rfl (by have hkk:=HK.out;simp;try omega) ?_;intro ad4 c4 w4 O4)
  | (at_builtin;refine aB (by rfl) (.tmp 132) (.tmp 134) 35 (by rfl) i0 Tryz.underlying35 Hi.out Hz0.out Hz1.out Hz2.out _ _ _ _ (by rfl) (by have:=HK.out;simp;omega) O4.out 1 1 [43] _ (by rfl) (by rfl) (by rfl) rfl (by have hkk:=HK.out;simp;try omega) ?_;intro ad5 c5 w5 O5)
  | (at_builtin;refine aB (by rfl) (.tmp 136) (.tmp 150) 35 (by rfl) i0 Tryz.underlying35 Hi.out Hz0.out Hz1.out Hz2.out _ _ _ _ (by rfl) (by have:=HK.out;simp;omega) O5.out 3 3 [UInt8.ofNat (x / 100+48),UInt8.ofNat (x / 10%10+48),UInt8.ofNat (x%10+48)] _ (by rfl) (oH _ _ _ (x / 100+48) (x / 10%10+48) (x%10+48) (by omega) (by omega) (by omega) (by rfl) (by rfl) (by rfl)) (by rfl) rfl (by have hkk:=HK.out;simp;try omega) ?_;intro ad6 c6 w6 O6))
 go_ret;have e:aU x=[UInt8.ofNat (x / 100+48),UInt8.ofNat (x / 10%10+48),UInt8.ofNat (x%10+48)]:=by unfold aU;rw[if_neg (by omega),if_neg (by omega)]
 refine⟨ad6,c6,fD ?_,?_⟩
 ·rw[e];have hkk:=HK.out;simp;try omega
 ·have:=O6.out;rw[e];simpa using this
theorem aAE (w:World)(B g k:Nat)(ad:Option Addr)(c:Nat)(S:Nat→Prop)(d:UInt8)(D:List UInt8)(dp:Int)(x:Nat)(hO:Out w w B S ad c [])(hI:IsB w (some ⟨g,0,none⟩) (d :: D))(hg:¬S g)(_hgs:g<w.heap.size)
  (hk:D.length=k) (k1:1≤k) (k2:k≤20) (hx:dp-1=-(x:Int)) (x0:1≤x) (x2:x<10) (_d1:-2000≤dp) (_d2:dp≤2000) :
  Calls Tryz.prog 257 #[.slice ad 0 c,.bool false,.slice (some ⟨g,0,none⟩) 32 32,.int .i64 dp,.int .i64 ((k:Int)+1),.int .i64 k,.int .u8 101,.bool true] w (fU w B S (d :: 46 :: D++[101,45]++aU x)):=by
 obtain⟨i0,hi,hz0,hz1,hz2⟩:=info_parts iN;have Hi:=hid hi;have Hz0:=hid hz0;have Hz1:=hid hz1;have Hz2:=hid hz2;have HO:=hid hO;have HI:=hid hI;have hc0:w.cell? ⟨g,0,none⟩=some (.int .u8 d.toNat):=by
  obtain⟨x,hx,hc⟩:=hI 0 d rfl;cases hx;exact hc
 clear hi hz0 hz1 hz2 hO hI;have hcut:∀w,(Instr.slice 35 (.slice (some ⟨g,0,none⟩) 32 32) (some (.int .i64 1)) (some (.int .i64 ((k:Int)+1))) none).run Tryz.prog w=.ok (.slice (some ⟨g,1,none⟩) k 31) w:=by
  intro w;have:=jF 35 5 Tryz.underlying35 wZ w (some ⟨g,0,none⟩) 32 32 1 (k+1) (by omega) (by omega);exact this
 have f1:(((k:Int)+1)==0)=false:=beq_eq_false_iff_ne.2 (by omega);have f2:(((k:Int)+1) !=0)=true:=bne_iff_ne.2 (by omega);have HK:=hid hk;clear hk;go_enter Tryz.func257,Tryz.ntmps257
 go_wp2_with (first
  | (at_builtin;refine aB (by rfl) (.tmp 87) (.tmp 89) 35 (by rfl) i0 Tryz.underlying35 Hi.out Hz0.out Hz1.out Hz2.out _ _ _ _ (by rfl) rfl HO.out 1 1 [d] _ (by rfl) (by rfl) (by rfl) rfl (by have hkk:=HK.out;simp;try omega) ?_;intro ad1 c1 w1 O1)
  | (at_builtin;refine aB (by rfl) (.tmp 93) (.tmp 94) 35 (by rfl) i0 Tryz.underlying35 Hi.out Hz0.out Hz1.out Hz2.out _ _ _ _ (by rfl) rfl O1.out 1 1 [46] _ (by rfl) (by rfl) (by rfl) rfl (by have hkk:=HK.out;simp;try omega) ?_;intro ad2 c2 w2 O2)
  | (at_builtin;refine eP (by rfl) (.tmp 103) (.tmp 107) 35 (by rfl) i0 Tryz.underlying35 Hi.out Hz0.out Hz1.out Hz2.out _ _ _ _ (by rfl) rfl O2.out (some ⟨g,1,none⟩) k 31 D (by rfl) HK.out ?src (by have hkk:=HK.out;simp;try omega) ?_;rotate_left;intro ad3 c3 w3 O3))
 case src=>exact(show IsB w2 (some ⟨g,1,none⟩) D from IsB.cut (IsB.kept HI.out O2.out.kept (fun y hy _=>by cases hy;exact hg)) 1 32 (by have hkk:=HK.out;simp;omega))
 refine wp_loop_rounds 1 ?_;rw[rounds_succ];go_wp2_with (first
  | (at_builtin;refine aB (by rfl) (.tmp 120) (.tmp 122) 35 (by rfl) i0 Tryz.underlying35 Hi.out Hz0.out Hz1.out Hz2.out _ _ _ _ (by rfl) (by have:=HK.out;simp;omega) O3.out 1 1 [101] _ (by rfl) (by rfl) (by rfl) rfl (by have hkk:=HK.out;simp;try omega) ?_;intro ad4 c4 w4 O4)
  | (at_builtin;refine aB (by rfl) (.tmp 132) (.tmp 134) 35 (by rfl) i0 Tryz.underlying35 Hi.out Hz0.out Hz1.out Hz2.out _ _ _ _ (by rfl) (by have:=HK.out;simp;omega) O4.out 1 1 [45] _ (by rfl) (by rfl) (by rfl) rfl (by have hkk:=HK.out;simp;try omega) ?_;intro ad5 c5 w5 O5)
  | (at_builtin;refine aB (by rfl) (.tmp 155) (.tmp 159) 35 (by rfl) i0 Tryz.underlying35 Hi.out Hz0.out Hz1.out Hz2.out _ _ _ _ (by rfl) (by have:=HK.out;simp;omega) O5.out 2 2 [48,UInt8.ofNat (x+48)] _ (by rfl) (qG _ (x+48) (by omega) (by rfl)) (by rfl) rfl (by have hkk:=HK.out;simp;try omega) ?_;intro ad6 c6 w6 O6))
 go_ret;have e:aU x=[48,UInt8.ofNat (x+48)]:=by unfold aU;rw[if_pos x2]
 refine⟨ad6,c6,fD ?_,?_⟩
 ·rw[e];have hkk:=HK.out;simp;try omega
 ·have:=O6.out;rw[e];simpa using this
theorem aAT (w:World)(B g k:Nat)(ad:Option Addr)(c:Nat)(S:Nat→Prop)(d:UInt8)(D:List UInt8)(dp:Int)(x:Nat)(hO:Out w w B S ad c [])(hI:IsB w (some ⟨g,0,none⟩) (d :: D))(hg:¬S g)(_hgs:g<w.heap.size)
  (hk:D.length=k) (k1:1≤k) (k2:k≤20) (hx:dp-1=-(x:Int)) (x0:1≤x) (x1:10≤x) (x2:x<100) (_d1:-2000≤dp) (_d2:dp≤2000) :
  Calls Tryz.prog 257 #[.slice ad 0 c,.bool false,.slice (some ⟨g,0,none⟩) 32 32,.int .i64 dp,.int .i64 ((k:Int)+1),.int .i64 k,.int .u8 101,.bool true] w (fU w B S (d :: 46 :: D++[101,45]++aU x)):=by
 obtain⟨i0,hi,hz0,hz1,hz2⟩:=info_parts iN;have Hi:=hid hi;have Hz0:=hid hz0;have Hz1:=hid hz1;have Hz2:=hid hz2;have HO:=hid hO;have HI:=hid hI;have hc0:w.cell? ⟨g,0,none⟩=some (.int .u8 d.toNat):=by
  obtain⟨x,hx,hc⟩:=hI 0 d rfl;cases hx;exact hc
 clear hi hz0 hz1 hz2 hO hI;have hcut:∀w,(Instr.slice 35 (.slice (some ⟨g,0,none⟩) 32 32) (some (.int .i64 1)) (some (.int .i64 ((k:Int)+1))) none).run Tryz.prog w=.ok (.slice (some ⟨g,1,none⟩) k 31) w:=by
  intro w;have:=jF 35 5 Tryz.underlying35 wZ w (some ⟨g,0,none⟩) 32 32 1 (k+1) (by omega) (by omega);exact this
 have f1:(((k:Int)+1)==0)=false:=beq_eq_false_iff_ne.2 (by omega);have f2:(((k:Int)+1) !=0)=true:=bne_iff_ne.2 (by omega);have HK:=hid hk;clear hk;go_enter Tryz.func257,Tryz.ntmps257
 go_wp2_with (first
  | (at_builtin;refine aB (by rfl) (.tmp 87) (.tmp 89) 35 (by rfl) i0 Tryz.underlying35 Hi.out Hz0.out Hz1.out Hz2.out _ _ _ _ (by rfl) rfl HO.out 1 1 [d] _ (by rfl) (by rfl) (by rfl) rfl (by have hkk:=HK.out;simp;try omega) ?_;intro ad1 c1 w1 O1)
  | (at_builtin;refine aB (by rfl) (.tmp 93) (.tmp 94) 35 (by rfl) i0 Tryz.underlying35 Hi.out Hz0.out Hz1.out Hz2.out _ _ _ _ (by rfl) rfl O1.out 1 1 [46] _ (by rfl) (by rfl) (by rfl) rfl (by have hkk:=HK.out;simp;try omega) ?_;intro ad2 c2 w2 O2)
  | (at_builtin;refine eP (by rfl) (.tmp 103) (.tmp 107) 35 (by rfl) i0 Tryz.underlying35 Hi.out Hz0.out Hz1.out Hz2.out _ _ _ _ (by rfl) rfl O2.out (some ⟨g,1,none⟩) k 31 D (by rfl) HK.out ?src (by have hkk:=HK.out;simp;try omega) ?_;rotate_left;intro ad3 c3 w3 O3))
 case src=>exact(show IsB w2 (some ⟨g,1,none⟩) D from IsB.cut (IsB.kept HI.out O2.out.kept (fun y hy _=>by cases hy;exact hg)) 1 32 (by have hkk:=HK.out;simp;omega))
 refine wp_loop_rounds 1 ?_;rw[rounds_succ];go_wp2_with (first
  | (at_builtin;refine aB (by rfl) (.tmp 120) (.tmp 122) 35 (by rfl) i0 Tryz.underlying35 Hi.out Hz0.out Hz1.out Hz2.out _ _ _ _ (by rfl) (by have:=HK.out;simp;omega) O3.out 1 1 [101] _ (by rfl) (by rfl) (by rfl) rfl (by have hkk:=HK.out;simp;try omega) ?_;intro ad4 c4 w4 O4)
  | (at_builtin;refine aB (by rfl) (.tmp 132) (.tmp 134) 35 (by rfl) i0 Tryz.underlying35 Hi.out Hz0.out Hz1.out Hz2.out _ _ _ _ (by rfl) (by have:=HK.out;simp;omega) O4.out 1 1 [45] _ (by rfl) (by rfl) (by rfl) rfl (by have hkk:=HK.out;simp;try omega) ?_;intro ad5 c5 w5 O5)
  | (at_builtin;refine aB (by rfl) (.tmp 164) (.tmp 173) 35 (by rfl) i0 Tryz.underlying35 Hi.out Hz0.out Hz1.out Hz2.out _ _ _ _ (by rfl) (by have:=HK.out;simp;omega) O5.out 2 2 [UInt8.ofNat (x / 10+48),UInt8.ofNat (x%10+48)] _ (by rfl) (rS _ _ (x / 10+48) (x%10+48) (by omega) (by omega) (by rfl) (by rfl)) (by rfl) rfl (by have hkk:=HK.out;simp;try omega) ?_;intro ad6 c6 w6 O6))
 go_ret;have e:aU x=[UInt8.ofNat (x / 10+48),UInt8.ofNat (x%10+48)]:=by unfold aU;rw[if_neg (by omega),if_pos x2]
 refine⟨ad6,c6,fD ?_,?_⟩
 ·rw[e];have hkk:=HK.out;simp;try omega
 ·have:=O6.out;rw[e];simpa using this
theorem aAA (w:World)(B g k:Nat)(ad:Option Addr)(c:Nat)(S:Nat→Prop)(d:UInt8)(D:List UInt8)(dp:Int)(x:Nat)(hO:Out w w B S ad c [])(hI:IsB w (some ⟨g,0,none⟩) (d :: D))(hg:¬S g)(_hgs:g<w.heap.size)
  (hk:D.length=k) (k1:1≤k) (k2:k≤20) (hx:dp-1=-(x:Int)) (x0:1≤x) (x1:100≤x) (x2:x<1000) (_d1:-2000≤dp) (_d2:dp≤2000) :
  Calls Tryz.prog 257 #[.slice ad 0 c,.bool false,.slice (some ⟨g,0,none⟩) 32 32,.int .i64 dp,.int .i64 ((k:Int)+1),.int .i64 k,.int .u8 101,.bool true] w (fU w B S (d :: 46 :: D++[101,45]++aU x)):=by
 obtain⟨i0,hi,hz0,hz1,hz2⟩:=info_parts iN;have Hi:=hid hi;have Hz0:=hid hz0;have Hz1:=hid hz1;have Hz2:=hid hz2;have HO:=hid hO;have HI:=hid hI;have hc0:w.cell? ⟨g,0,none⟩=some (.int .u8 d.toNat):=by
  obtain⟨x,hx,hc⟩:=hI 0 d rfl;cases hx;exact hc
 clear hi hz0 hz1 hz2 hO hI;have hcut:∀w,(Instr.slice 35 (.slice (some ⟨g,0,none⟩) 32 32) (some (.int .i64 1)) (some (.int .i64 ((k:Int)+1))) none).run Tryz.prog w=.ok (.slice (some ⟨g,1,none⟩) k 31) w:=by
  intro w;have:=jF 35 5 Tryz.underlying35 wZ w (some ⟨g,0,none⟩) 32 32 1 (k+1) (by omega) (by omega);exact this
 have f1:(((k:Int)+1)==0)=false:=beq_eq_false_iff_ne.2 (by omega);have f2:(((k:Int)+1) !=0)=true:=bne_iff_ne.2 (by omega);have HK:=hid hk;clear hk;go_enter Tryz.func257,Tryz.ntmps257
 go_wp2_with (first
  | (at_builtin;refine aB (by rfl) (.tmp 87) (.tmp 89) 35 (by rfl) i0 Tryz.underlying35 Hi.out Hz0.out Hz1.out Hz2.out _ _ _ _ (by rfl) rfl HO.out 1 1 [d] _ (by rfl) (by rfl) (by rfl) rfl (by have hkk:=HK.out;simp;try omega) ?_;intro ad1 c1 w1 O1)
  | (at_builtin;refine aB (by rfl) (.tmp 93) (.tmp 94) 35 (by rfl) i0 Tryz.underlying35 Hi.out Hz0.out Hz1.out Hz2.out _ _ _ _ (by rfl) rfl O1.out 1 1 [46] _ (by rfl) (by rfl) (by rfl) rfl (by have hkk:=HK.out;simp;try omega) ?_;intro ad2 c2 w2 O2)
  | (at_builtin;refine eP (by rfl) (.tmp 103) (.tmp 107) 35 (by rfl) i0 Tryz.underlying35 Hi.out Hz0.out Hz1.out Hz2.out _ _ _ _ (by rfl) rfl O2.out (some ⟨g,1,none⟩) k 31 D (by rfl) HK.out ?src (by have hkk:=HK.out;simp;try omega) ?_;rotate_left;intro ad3 c3 w3 O3))
 case src=>exact(show IsB w2 (some ⟨g,1,none⟩) D from IsB.cut (IsB.kept HI.out O2.out.kept (fun y hy _=>by cases hy;exact hg)) 1 32 (by have hkk:=HK.out;simp;omega))
 refine wp_loop_rounds 1 ?_;rw[rounds_succ];go_wp2_with (first
  | (at_builtin;refine aB (by rfl) (.tmp 120) (.tmp 122) 35 (by rfl) i0 Tryz.underlying35 Hi.out Hz0.out Hz1.out Hz2.out _ _ _ _ (by rfl) (by have:=HK.out;simp;omega) O3.out 1 1 [101] _ (by rfl) (by rfl) (by rfl) rfl (by have hkk:=HK.out;simp;try omega) ?_;intro ad4 c4 w4 O4)
  | (at_builtin;refine aB (by rfl) (.tmp 132) (.tmp 134) 35 (by rfl) i0 Tryz.underlying35 Hi.out Hz0.out Hz1.out Hz2.out _ _ _ _ (by rfl) (by have:=HK.out;simp;omega) O4.out 1 1 [45] _ (by rfl) (by rfl) (by rfl) rfl (by have hkk:=HK.out;simp;try omega) ?_;intro ad5 c5 w5 O5)
  | (at_builtin;refine aB (by rfl) (.tmp 136) (.tmp 150) 35 (by rfl) i0 Tryz.underlying35 Hi.out Hz0.out Hz1.out Hz2.out _ _ _ _ (by rfl) (by have:=HK.out;simp;omega) O5.out 3 3 [UInt8.ofNat (x / 100+48),UInt8.ofNat (x / 10%10+48),UInt8.ofNat (x%10+48)] _ (by rfl) (oH _ _ _ (x / 100+48) (x / 10%10+48) (x%10+48) (by omega) (by omega) (by omega) (by rfl) (by rfl) (by rfl)) (by rfl) rfl (by have hkk:=HK.out;simp;try omega) ?_;intro ad6 c6 w6 O6))
 go_ret;have e:aU x=[UInt8.ofNat (x / 100+48),UInt8.ofNat (x / 10%10+48),UInt8.ofNat (x%10+48)]:=by unfold aU;rw[if_neg (by omega),if_neg (by omega)]
 refine⟨ad6,c6,fD ?_,?_⟩
 ·rw[e];have hkk:=HK.out;simp;try omega
 ·have:=O6.out;rw[e];simpa using this
end Go.Proofs.YtcfgbdhpcboikaaGreatDoor
