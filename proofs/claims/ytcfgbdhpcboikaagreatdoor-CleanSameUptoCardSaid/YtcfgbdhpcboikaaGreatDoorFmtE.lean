/-
internal/strconv.fmtEFG in the form 'e', with just the digits that there are: the ways (one digit or more, the exponent's sign, the exponent's length).
-/
import Derived.Test.YtcfgbdhpcboikaaGreatDoorShortB
namespace Go.Proofs.YtcfgbdhpcboikaaGreatDoor
open Go.Lib (hid)
set_option maxHeartbeats 8000000
set_option maxRecDepth 100000
open Go.RowKit
theorem aDs:(Tryz.prog.info? 5).map (fun i=>(i.zero,i.size,i.bytes))=some (some (.int .u8 0),1,1):=by kernel_rfl
theorem xG:(Tryz.prog.info? 5).map (·.size)=some 1:=by kernel_rfl
theorem nD (x:Nat)(h:x<256):fF (UInt8.ofNat x)=.int .u8 (x:Int):=by
 unfold fF;rw[UInt8.toNat_ofNat_of_lt' (by simpa using h)]
theorem pQ (z:Value)(x:Nat)(h:x<256)(hz:z=.int .u8 (x:Int)):(#[.int .u8 48,z]:Array Value)=([48,UInt8.ofNat x].map fF).toArray:=by
 rw[List.map_cons,List.map_cons,List.map_nil,nD x h,hz];rfl
theorem rK (z1 z2:Value)(x y:Nat)(hx:x<256)(hy:y<256)(h1:z1=.int .u8 (x:Int))(h2:z2=.int .u8 (y:Int)):(#[z1,z2]:Array Value)=([UInt8.ofNat x,UInt8.ofNat y].map fF).toArray:=by
 rw[List.map_cons,List.map_cons,List.map_nil,nD x hx,nD y hy,h1,h2]
theorem oG (z1 z2 z3:Value)(x y z:Nat)(hx:x<256)(hy:y<256)(hz:z<256)(h1:z1=.int .u8 (x:Int))(h2:z2=.int .u8 (y:Int))(h3:z3=.int .u8 (z:Int)):(#[z1,z2,z3]:Array Value)=([UInt8.ofNat x,UInt8.ofNat y,UInt8.ofNat z].map fF).toArray:=by
 rw[List.map_cons,List.map_cons,List.map_cons,List.map_nil,nD x hx,nD y hy,nD z hz,h1,h2,h3]
theorem fD {a:Option Addr}{n m c:Nat}(h:n=m):Ending.returned (.slice a n c)=.returned (.slice a m c):=by rw[h]
def fT (w:World)(B:Nat)(S:Nat→Prop)(bs:List UInt8)(e:Ending)(w':World):Prop :=
 ∃ad c,e=.returned (.slice ad bs.length c)∧Out w w' B S ad c bs
section
variable {w:World} {ops:Array Oper} {rest:List Oper} {o:Oper} {a:Act} {Q:Exit→Act→World→Prop}
theorem bS (hgd:o.guard=none)(s x:Operand)(ho:o.op=.call { callee:=.builtin .append,args:=#[s,x],argTypes:=#[35,35] })
  {w0 w1:World} {B:Nat} {S:Nat→Prop} {ad:Option Addr} {n c:Nat} {bs:List UInt8} (hs:a.eval s=.slice ad n c) (hn:bs.length=n) (hO:Hid (Out w0 w1 B S ad c bs))
  (m:Nat) (cs:List UInt8) (vs:Array Value) (hw:w=w1.alloc (.cells vs 5)) (hvs:vs=(cs.map fF).toArray) (hx:a.eval x=.slice (some ⟨w1.heap.size,0,none⟩) m m) (hm:cs.length=m) (hb:n+m≤1000000)
  (h:∀ad' c' w',Hid (Out w0 w' B S ad' c' (bs++cs))→wpList Tryz.prog ops Q rest (a.put o.dst (.slice ad' (n+m:Nat) c')) w'):wpList Tryz.prog ops Q (o :: rest) a w:=by
 obtain⟨i0,hi,hz0,hz1,hz2⟩:=info_parts aDs;exact zN hgd s x 35 ho i0 Tryz.underlying35 hi hz0 hz1 hz2 ad n c bs hs hn hO.out m m cs vs hw hvs hx hm hb h
theorem aA0 (hgd:o.guard=none)(s x:Operand)(ho:o.op=.call { callee:=.builtin .append,args:=#[s,x],argTypes:=#[35,35] })
  {w0:World} {B:Nat} {S:Nat→Prop} {ad:Option Addr} {n c:Nat} {bs:List UInt8} (hs:a.eval s=.slice ad n c) (hn:bs.length=n) (hO:Hid (Out w0 w B S ad c bs))
  (sa:Option Addr) (m sc:Nat) (cs:List UInt8) (hx:a.eval x=.slice sa m sc) (hm:cs.length=m) (hI:IsB w sa cs) (hb:n+m≤1000000)
  (h:∀ad' c' w',Hid (Out w0 w' B S ad' c' (bs++cs))→wpList Tryz.prog ops Q rest (a.put o.dst (.slice ad' (n+m:Nat) c')) w'):wpList Tryz.prog ops Q (o :: rest) a w:=by
 obtain⟨i0,hi,hz0,hz1,hz2⟩:=info_parts aDs;exact qS hgd s x 35 ho i0 Tryz.underlying35 hi hz0 hz1 hz2 ad n c bs hs hn hO.out sa m sc cs hx hm hI hb h
end
theorem aBe (w:World)(B g:Nat)(ad:Option Addr)(c:Nat)(S:Nat→Prop)(d:UInt8)(dp:Int)(x:Nat)(hO:Out w w B S ad c [])(hI:IsB w (some ⟨g,0,none⟩) [d])
  (hx:dp-1=(x:Int)) (x2:x<10) (_d1:-2000≤dp) (_d2:dp≤2000) :
  Calls Tryz.prog 257 #[.slice ad 0 c,.bool false,.slice (some ⟨g,0,none⟩) 32 32,.int .i64 dp,.int .i64 1,.int .i64 0,.int .u8 101,.bool true] w (fT w B S (d :: [101,43]++aR x)):=by
 have HO:=hid hO;have HI:=hid hI;have hc0:w.cell? ⟨g,0,none⟩=some (.int .u8 d.toNat):=by
  obtain⟨x,hx,hc⟩:=hI 0 d rfl;cases hx;exact hc
 clear hO hI;go_enter Tryz.func257,Tryz.ntmps257
 go_wp2_with (first
  | (at_builtin;refine bS (by rfl) (.tmp 87) (.tmp 89) (by rfl) (by rfl) rfl HO 1 [d] _ (by rfl) (by rfl) (by rfl) rfl (by simp;try omega) ?_;intro ad1 c1 w1 O1)
  | (at_builtin;refine bS (by rfl) (.tmp 120) (.tmp 122) (by rfl) (by rfl) rfl O1 1 [101] _ (by rfl) (by rfl) (by rfl) rfl (by simp;try omega) ?_;intro ad4 c4 w4 O4)
  | (at_builtin;refine bS (by rfl) (.tmp 132) (.tmp 134) (by rfl) (by rfl) rfl O4 1 [43] _ (by rfl) (by rfl) (by rfl) rfl (by simp;try omega) ?_;intro ad5 c5 w5 O5)
  | (at_builtin;refine bS (by rfl) (.tmp 155) (.tmp 159) (by rfl) (by rfl) rfl O5 2 [48,UInt8.ofNat (x+48)] _ (by rfl) (pQ _ (x+48) (by omega) (by rfl)) (by rfl) rfl (by simp;try omega) ?_;intro ad6 c6 w6 O6))
 go_ret;have e:aR x=[48,UInt8.ofNat (x+48)]:=by unfold aR;rw[if_pos x2]
 refine⟨ad6,c6,fD ?_,?_⟩
 ·rw[e];rfl
 ·have:=O6.out;rw[e];simpa using this
theorem aBf (w:World)(B g:Nat)(ad:Option Addr)(c:Nat)(S:Nat→Prop)(d:UInt8)(dp:Int)(x:Nat)(hO:Out w w B S ad c [])(hI:IsB w (some ⟨g,0,none⟩) [d])
  (hx:dp-1=(x:Int)) (x1:10≤x) (x2:x<100) (_d1:-2000≤dp) (_d2:dp≤2000) :
  Calls Tryz.prog 257 #[.slice ad 0 c,.bool false,.slice (some ⟨g,0,none⟩) 32 32,.int .i64 dp,.int .i64 1,.int .i64 0,.int .u8 101,.bool true] w (fT w B S (d :: [101,43]++aR x)):=by
 have HO:=hid hO;have HI:=hid hI;have hc0:w.cell? ⟨g,0,none⟩=some (.int .u8 d.toNat):=by
  obtain⟨x,hx,hc⟩:=hI 0 d rfl;cases hx;exact hc
 clear hO hI;go_enter Tryz.func257,Tryz.ntmps257
 go_wp2_with (first
  | (at_builtin;refine bS (by rfl) (.tmp 87) (.tmp 89) (by rfl) (by rfl) rfl HO 1 [d] _ (by rfl) (by rfl) (by rfl) rfl (by simp;try omega) ?_;intro ad1 c1 w1 O1)
  | (at_builtin;refine bS (by rfl) (.tmp 120) (.tmp 122) (by rfl) (by rfl) rfl O1 1 [101] _ (by rfl) (by rfl) (by rfl) rfl (by simp;try omega) ?_;intro ad4 c4 w4 O4)
  | (at_builtin;refine bS (by rfl) (.tmp 132) (.tmp 134) (by rfl) (by rfl) rfl O4 1 [43] _ (by rfl) (by rfl) (by rfl) rfl (by simp;try omega) ?_;intro ad5 c5 w5 O5)
  | (at_builtin;refine bS (by rfl) (.tmp 164) (.tmp 173) (by rfl) (by rfl) rfl O5 2 [UInt8.ofNat (x / 10+48),UInt8.ofNat (x%10+48)] _ (by rfl) (rK _ _ (x / 10+48) (x%10+48) (by omega) (by omega) (by rfl) (by rfl)) (by rfl) rfl (by simp;try omega) ?_;intro ad6 c6 w6 O6))
 go_ret;have e:aR x=[UInt8.ofNat (x / 10+48),UInt8.ofNat (x%10+48)]:=by unfold aR;rw[if_neg (by omega),if_pos x2]
 refine⟨ad6,c6,fD ?_,?_⟩
 ·rw[e];rfl
 ·have:=O6.out;rw[e];simpa using this
theorem aBg (w:World)(B g:Nat)(ad:Option Addr)(c:Nat)(S:Nat→Prop)(d:UInt8)(dp:Int)(x:Nat)(hO:Out w w B S ad c [])(hI:IsB w (some ⟨g,0,none⟩) [d])
  (hx:dp-1=(x:Int)) (x1:100≤x) (x2:x<1000) (_d1:-2000≤dp) (_d2:dp≤2000) :
  Calls Tryz.prog 257 #[.slice ad 0 c,.bool false,.slice (some ⟨g,0,none⟩) 32 32,.int .i64 dp,.int .i64 1,.int .i64 0,.int .u8 101,.bool true] w (fT w B S (d :: [101,43]++aR x)):=by
 have HO:=hid hO;have HI:=hid hI;have hc0:w.cell? ⟨g,0,none⟩=some (.int .u8 d.toNat):=by
  obtain⟨x,hx,hc⟩:=hI 0 d rfl;cases hx;exact hc
 clear hO hI;go_enter Tryz.func257,Tryz.ntmps257
 go_wp2_with (first
  | (at_builtin;refine bS (by rfl) (.tmp 87) (.tmp 89) (by rfl) (by rfl) rfl HO 1 [d] _ (by rfl) (by rfl) (by rfl) rfl (by simp;try omega) ?_;intro ad1 c1 w1 O1)
  | (at_builtin;refine bS (by rfl) (.tmp 120) (.tmp 122) (by rfl) (by rfl) rfl O1 1 [101] _ (by rfl) (by rfl) (by rfl) rfl (by simp;try omega) ?_;intro ad4 c4 w4 O4)
  | (at_builtin;refine bS (by rfl) (.tmp 132) (.tmp 134) (by rfl) (by rfl) rfl O4 1 [43] _ (by rfl) (by rfl) (by rfl) rfl (by simp;try omega) ?_;intro ad5 c5 w5 O5)
  | (at_builtin;refine bS (by rfl) (.tmp 136) (.tmp 150) (by rfl) (by rfl) rfl O5 3 [UInt8.ofNat (x / 100+48),UInt8.ofNat (x / 10%10+48),UInt8.ofNat (x%10+48)] _ (by rfl) (oG _ _ _ (x / 100+48) (x / 10%10+48) (x%10+48) (by omega) (by omega) (by omega) (by rfl) (by rfl) (by rfl)) (by rfl) rfl (by simp;try omega) ?_;intro ad6 c6 w6 O6))
 go_ret;have e:aR x=[UInt8.ofNat (x / 100+48),UInt8.ofNat (x / 10%10+48),UInt8.ofNat (x%10+48)]:=by unfold aR;rw[if_neg (by omega),if_neg (by omega)]
 refine⟨ad6,c6,fD ?_,?_⟩
 ·rw[e];rfl
 ·have:=O6.out;rw[e];simpa using this
theorem aBb (w:World)(B g:Nat)(ad:Option Addr)(c:Nat)(S:Nat→Prop)(d:UInt8)(dp:Int)(x:Nat)(hO:Out w w B S ad c [])(hI:IsB w (some ⟨g,0,none⟩) [d])
  (hx:dp-1=-(x:Int)) (x0:1≤x) (x2:x<10) (_d1:-2000≤dp) (_d2:dp≤2000) :
  Calls Tryz.prog 257 #[.slice ad 0 c,.bool false,.slice (some ⟨g,0,none⟩) 32 32,.int .i64 dp,.int .i64 1,.int .i64 0,.int .u8 101,.bool true] w (fT w B S (d :: [101,45]++aR x)):=by
 have HO:=hid hO;have HI:=hid hI;have hc0:w.cell? ⟨g,0,none⟩=some (.int .u8 d.toNat):=by
  obtain⟨x,hx,hc⟩:=hI 0 d rfl;cases hx;exact hc
 clear hO hI;go_enter Tryz.func257,Tryz.ntmps257
 go_wp2_with (first
  | (at_builtin;refine bS (by rfl) (.tmp 87) (.tmp 89) (by rfl) (by rfl) rfl HO 1 [d] _ (by rfl) (by rfl) (by rfl) rfl (by simp;try omega) ?_;intro ad1 c1 w1 O1)
  | (at_builtin;refine bS (by rfl) (.tmp 120) (.tmp 122) (by rfl) (by rfl) rfl O1 1 [101] _ (by rfl) (by rfl) (by rfl) rfl (by simp;try omega) ?_;intro ad4 c4 w4 O4)
  | (at_builtin;refine bS (by rfl) (.tmp 132) (.tmp 134) (by rfl) (by rfl) rfl O4 1 [45] _ (by rfl) (by rfl) (by rfl) rfl (by simp;try omega) ?_;intro ad5 c5 w5 O5)
  | (at_builtin;refine bS (by rfl) (.tmp 155) (.tmp 159) (by rfl) (by rfl) rfl O5 2 [48,UInt8.ofNat (x+48)] _ (by rfl) (pQ _ (x+48) (by omega) (by rfl)) (by rfl) rfl (by simp;try omega) ?_;intro ad6 c6 w6 O6))
 go_ret;have e:aR x=[48,UInt8.ofNat (x+48)]:=by unfold aR;rw[if_pos x2]
 refine⟨ad6,c6,fD ?_,?_⟩
 ·rw[e];rfl
 ·have:=O6.out;rw[e];simpa using this
theorem aBc (w:World)(B g:Nat)(ad:Option Addr)(c:Nat)(S:Nat→Prop)(d:UInt8)(dp:Int)(x:Nat)(hO:Out w w B S ad c [])(hI:IsB w (some ⟨g,0,none⟩) [d])
  (hx:dp-1=-(x:Int)) (x0:1≤x) (x1:10≤x) (x2:x<100) (_d1:-2000≤dp) (_d2:dp≤2000) :
  Calls Tryz.prog 257 #[.slice ad 0 c,.bool false,.slice (some ⟨g,0,none⟩) 32 32,.int .i64 dp,.int .i64 1,.int .i64 0,.int .u8 101,.bool true] w (fT w B S (d :: [101,45]++aR x)):=by
 have HO:=hid hO;have HI:=hid hI;have hc0:w.cell? ⟨g,0,none⟩=some (.int .u8 d.toNat):=by
  obtain⟨x,hx,hc⟩:=hI 0 d rfl;cases hx;exact hc
 clear hO hI;go_enter Tryz.func257,Tryz.ntmps257
 go_wp2_with (first
  | (at_builtin;refine bS (by rfl) (.tmp 87) (.tmp 89) (by rfl) (by rfl) rfl HO 1 [d] _ (by rfl) (by rfl) (by rfl) rfl (by simp;try omega) ?_;intro ad1 c1 w1 O1)
  | (at_builtin;refine bS (by rfl) (.tmp 120) (.tmp 122) (by rfl) (by rfl) rfl O1 1 [101] _ (by rfl) (by rfl) (by rfl) rfl (by simp;try omega) ?_;intro ad4 c4 w4 O4)
  | (at_builtin;refine bS (by rfl) (.tmp 132) (.tmp 134) (by rfl) (by rfl) rfl O4 1 [45] _ (by rfl) (by rfl) (by rfl) rfl (by simp;try omega) ?_;intro ad5 c5 w5 O5)
  | (at_builtin;refine bS (by rfl) (.tmp 164) (.tmp 173) (by rfl) (by rfl) rfl O5 2 [UInt8.ofNat (x / 10+48),UInt8.ofNat (x%10+48)] _ (by rfl) (rK _ _ (x / 10+48) (x%10+48) (by omega) (by omega) (by rfl) (by rfl)) (by rfl) rfl (by simp;try omega) ?_;intro ad6 c6 w6 O6))
 go_ret;have e:aR x=[UInt8.ofNat (x / 10+48),UInt8.ofNat (x%10+48)]:=by unfold aR;rw[if_neg (by omega),if_pos x2]
 refine⟨ad6,c6,fD ?_,?_⟩
 ·rw[e];rfl
 ·have:=O6.out;rw[e];simpa using this
theorem aBd (w:World)(B g:Nat)(ad:Option Addr)(c:Nat)(S:Nat→Prop)(d:UInt8)(dp:Int)(x:Nat)(hO:Out w w B S ad c [])(hI:IsB w (some ⟨g,0,none⟩) [d])
  (hx:dp-1=-(x:Int)) (x0:1≤x) (x1:100≤x) (x2:x<1000) (_d1:-2000≤dp) (_d2:dp≤2000) :
  Calls Tryz.prog 257 #[.slice ad 0 c,.bool false,.slice (some ⟨g,0,none⟩) 32 32,.int .i64 dp,.int .i64 1,.int .i64 0,.int .u8 101,.bool true] w (fT w B S (d :: [101,45]++aR x)):=by
 have HO:=hid hO;have HI:=hid hI;have hc0:w.cell? ⟨g,0,none⟩=some (.int .u8 d.toNat):=by
  obtain⟨x,hx,hc⟩:=hI 0 d rfl;cases hx;exact hc
 clear hO hI;go_enter Tryz.func257,Tryz.ntmps257
 go_wp2_with (first
  | (at_builtin;refine bS (by rfl) (.tmp 87) (.tmp 89) (by rfl) (by rfl) rfl HO 1 [d] _ (by rfl) (by rfl) (by rfl) rfl (by simp;try omega) ?_;intro ad1 c1 w1 O1)
  | (at_builtin;refine bS (by rfl) (.tmp 120) (.tmp 122) (by rfl) (by rfl) rfl O1 1 [101] _ (by rfl) (by rfl) (by rfl) rfl (by simp;try omega) ?_;intro ad4 c4 w4 O4)
  | (at_builtin;refine bS (by rfl) (.tmp 132) (.tmp 134) (by rfl) (by rfl) rfl O4 1 [45] _ (by rfl) (by rfl) (by rfl) rfl (by simp;try omega) ?_;intro ad5 c5 w5 O5)
  | (at_builtin;refine bS (by rfl) (.tmp 136) (.tmp 150) (by rfl) (by rfl) rfl O5 3 [UInt8.ofNat (x / 100+48),UInt8.ofNat (x / 10%10+48),UInt8.ofNat (x%10+48)] _ (by rfl) (oG _ _ _ (x / 100+48) (x / 10%10+48) (x%10+48) (by omega) (by omega) (by omega) (by rfl) (by rfl) (by rfl)) (by rfl) rfl (by simp;try omega) ?_;intro ad6 c6 w6 O6))
 go_ret;have e:aR x=[UInt8.ofNat (x / 100+48),UInt8.ofNat (x / 10%10+48),UInt8.ofNat (x%10+48)]:=by unfold aR;rw[if_neg (by omega),if_neg (by omega)]
 refine⟨ad6,c6,fD ?_,?_⟩
 ·rw[e];rfl
 ·have:=O6.out;rw[e];simpa using this
theorem aAn (w:World)(B g k:Nat)(ad:Option Addr)(c:Nat)(S:Nat→Prop)(d:UInt8)(D:List UInt8)(dp:Int)(x:Nat)(hO:Out w w B S ad c [])(hI:IsB w (some ⟨g,0,none⟩) (d :: D))(hg:¬S g)(_hgs:g<w.heap.size)
  (hk:D.length=k) (k1:1≤k) (k2:k≤20) (hx:dp-1=(x:Int)) (x2:x<10) (_d1:-2000≤dp) (_d2:dp≤2000) :
  Calls Tryz.prog 257 #[.slice ad 0 c,.bool false,.slice (some ⟨g,0,none⟩) 32 32,.int .i64 dp,.int .i64 ((k:Int)+1),.int .i64 k,.int .u8 101,.bool true] w (fT w B S (d :: 46 :: D++[101,43]++aR x)):=by
 have HO:=hid hO;have HI:=hid hI;have hc0:w.cell? ⟨g,0,none⟩=some (.int .u8 d.toNat):=by
  obtain⟨x,hx,hc⟩:=hI 0 d rfl;cases hx;exact hc
 clear hO hI;have hcut:∀w,(Instr.slice 35 (.slice (some ⟨g,0,none⟩) 32 32) (some (.int .i64 1)) (some (.int .i64 ((k:Int)+1))) none).run Tryz.prog w=.ok (.slice (some ⟨g,1,none⟩) k 31) w:=by
  intro w;have:=jA 35 5 Tryz.underlying35 xG w (some ⟨g,0,none⟩) 32 32 1 (k+1) (by omega) (by omega);exact this
 have f1:(((k:Int)+1)==0)=false:=beq_eq_false_iff_ne.2 (by omega);have f2:(((k:Int)+1) !=0)=true:=bne_iff_ne.2 (by omega);have HK:=hid hk;clear hk;go_enter Tryz.func257,Tryz.ntmps257
 go_wp2_with (first
  | (at_builtin;refine bS (by rfl) (.tmp 87) (.tmp 89) (by rfl) (by rfl) rfl HO 1 [d] _ (by rfl) (by rfl) (by rfl) rfl (by have hkk:=HK.out;simp;try omega) ?_;intro ad1 c1 w1 O1)
  | (at_builtin;refine bS (by rfl) (.tmp 93) (.tmp 94) (by rfl) (by rfl) rfl O1 1 [46] _ (by rfl) (by rfl) (by rfl) rfl (by have hkk:=HK.out;simp;try omega) ?_;intro ad2 c2 w2 O2)
  | (at_builtin;refine aA0 (by rfl) (.tmp 103) (.tmp 107) (by rfl) (by rfl) rfl O2 (some ⟨g,1,none⟩) k 31 D (by rfl) HK.out ?src (by have hkk:=HK.out;simp;try omega) ?_;rotate_left;intro ad3 c3 w3 O3))
 case src=>exact(show IsB w2 (some ⟨g,1,none⟩) D from IsB.cut (IsB.kept HI.out O2.out.kept (fun y hy _=>by cases hy;exact hg)) 1 32 (by have hkk:=HK.out;simp;omega))
 refine wp_loop_rounds 1 ?_;rw[rounds_succ];go_wp2_with (first
  | (at_builtin;refine bS (by rfl) (.tmp 120) (.tmp 122) (by rfl) (by rfl) (by have:=HK.out;simp;omega) O3 1 [101] _ (by rfl) (by rfl) (by rfl) rfl (by have hkk:=HK.out;simp;try omega) ?_;intro ad4 c4 w4 O4)
  | (at_builtin;refine bS (by rfl) (.tmp 132) (.tmp 134) (by rfl) (by rfl) (by have:=HK.out;simp;omega) O4 1 [43] _ (by rfl) (by rfl) (by rfl) rfl (by have hkk:=HK.out;simp;try omega) ?_;intro ad5 c5 w5 O5)
  | (at_builtin;refine bS (by rfl) (.tmp 155) (.tmp 159) (by rfl) (by rfl) (by have:=HK.out;simp;omega) O5 2 [48,UInt8.ofNat (x+48)] _ (by rfl) (pQ _ (x+48) (by omega) (by rfl)) (by rfl) rfl (by have hkk:=HK.out;simp;try omega) ?_;intro ad6 c6 w6 O6))
 go_ret;have e:aR x=[48,UInt8.ofNat (x+48)]:=by unfold aR;rw[if_pos x2]
 refine⟨ad6,c6,fD ?_,?_⟩
 ·rw[e];have hkk:=HK.out;simp;try omega
 ·have:=O6.out;rw[e];simpa using this
theorem aAo (w:World)(B g k:Nat)(ad:Option Addr)(c:Nat)(S:Nat→Prop)(d:UInt8)(D:List UInt8)(dp:Int)(x:Nat)(hO:Out w w B S ad c [])(hI:IsB w (some ⟨g,0,none⟩) (d :: D))(hg:¬S g)(_hgs:g<w.heap.size)
  (hk:D.length=k) (k1:1≤k) (k2:k≤20) (hx:dp-1=(x:Int)) (x1:10≤x) (x2:x<100) (_d1:-2000≤dp) (_d2:dp≤2000) :
  Calls Tryz.prog 257 #[.slice ad 0 c,.bool false,.slice (some ⟨g,0,none⟩) 32 32,.int .i64 dp,.int .i64 ((k:Int)+1),.int .i64 k,.int .u8 101,.bool true] w (fT w B S (d :: 46 :: D++[101,43]++aR x)):=by
 have HO:=hid hO;have HI:=hid hI;have hc0:w.cell? ⟨g,0,none⟩=some (.int .u8 d.toNat):=by
  obtain⟨x,hx,hc⟩:=hI 0 d rfl;cases hx;exact hc
 clear hO hI;have hcut:∀w,(Instr.slice 35 (.slice (some ⟨g,0,none⟩) 32 32) (some (.int .i64 1)) (some (.int .i64 ((k:Int)+1))) none).run Tryz.prog w=.ok (.slice (some ⟨g,1,none⟩) k 31) w:=by
  intro w;have:=jA 35 5 Tryz.underlying35 xG w (some ⟨g,0,none⟩) 32 32 1 (k+1) (by omega) (by omega);exact this
 have f1:(((k:Int)+1)==0)=false:=beq_eq_false_iff_ne.2 (by omega);have f2:(((k:Int)+1) !=0)=true:=bne_iff_ne.2 (by omega);have HK:=hid hk;clear hk;go_enter Tryz.func257,Tryz.ntmps257
 go_wp2_with (first
  | (at_builtin;refine bS (by rfl) (.tmp 87) (.tmp 89) (by rfl) (by rfl) rfl HO 1 [d] _ (by rfl) (by rfl) (by rfl) rfl (by have hkk:=HK.out;simp;try omega) ?_;intro ad1 c1 w1 O1)
  | (at_builtin;refine bS (by rfl) (.tmp 93) (.tmp 94) (by rfl) (by rfl) rfl O1 1 [46] _ (by rfl) (by rfl) (by rfl) rfl (by have hkk:=HK.out;simp;try omega) ?_;intro ad2 c2 w2 O2)
  | (at_builtin;refine aA0 (by rfl) (.tmp 103) (.tmp 107) (by rfl) (by rfl) rfl O2 (some ⟨g,1,none⟩) k 31 D (by rfl) HK.out ?src (by have hkk:=HK.out;simp;try omega) ?_;rotate_left;intro ad3 c3 w3 O3))
 case src=>exact(show IsB w2 (some ⟨g,1,none⟩) D from IsB.cut (IsB.kept HI.out O2.out.kept (fun y hy _=>by cases hy;exact hg)) 1 32 (by have hkk:=HK.out;simp;omega))
 refine wp_loop_rounds 1 ?_;rw[rounds_succ];go_wp2_with (first
  | (at_builtin;refine bS (by rfl) (.tmp 120) (.tmp 122) (by rfl) (by rfl) (by have:=HK.out;simp;omega) O3 1 [101] _ (by rfl) (by rfl) (by rfl) rfl (by have hkk:=HK.out;simp;try omega) ?_;intro ad4 c4 w4 O4)
  | (at_builtin;refine bS (by rfl) (.tmp 132) (.tmp 134) (by rfl) (by rfl) (by have:=HK.out;simp;omega) O4 1 [43] _ (by rfl) (by rfl) (by rfl) rfl (by have hkk:=HK.out;simp;try omega) ?_;intro ad5 c5 w5 O5)
  | (at_builtin;refine bS (by rfl) (.tmp 164) (.tmp 173) (by rfl) (by rfl) (by have:=HK.out;simp;omega) O5 2 [UInt8.ofNat (x / 10+48),UInt8.ofNat (x%10+48)] _ (by rfl) (rK _ _ (x / 10+48) (x%10+48) (by omega) (by omega) (by rfl) (by rfl)) (by rfl) rfl (by have hkk:=HK.out;simp;try omega) ?_;intro ad6 c6 w6 O6))
 go_ret;have e:aR x=[UInt8.ofNat (x / 10+48),UInt8.ofNat (x%10+48)]:=by unfold aR;rw[if_neg (by omega),if_pos x2]
 refine⟨ad6,c6,fD ?_,?_⟩
 ·rw[e];have hkk:=HK.out;simp;try omega
 ·have:=O6.out;rw[e];simpa using this
theorem aAp (w:World)(B g k:Nat)(ad:Option Addr)(c:Nat)(S:Nat→Prop)(d:UInt8)(D:List UInt8)(dp:Int)(x:Nat)(hO:Out w w B S ad c [])(hI:IsB w (some ⟨g,0,none⟩) (d :: D))(hg:¬S g)(_hgs:g<w.heap.size)
  (hk:D.length=k) (k1:1≤k) (k2:k≤20) (hx:dp-1=(x:Int)) (x1:100≤x) (x2:x<1000) (_d1:-2000≤dp) (_d2:dp≤2000) :
  Calls Tryz.prog 257 #[.slice ad 0 c,.bool false,.slice (some ⟨g,0,none⟩) 32 32,.int .i64 dp,.int .i64 ((k:Int)+1),.int .i64 k,.int .u8 101,.bool true] w (fT w B S (d :: 46 :: D++[101,43]++aR x)):=by
 have HO:=hid hO;have HI:=hid hI;have hc0:w.cell? ⟨g,0,none⟩=some (.int .u8 d.toNat):=by
  obtain⟨x,hx,hc⟩:=hI 0 d rfl;cases hx;exact hc
 clear hO hI;have hcut:∀w,(Instr.slice 35 (.slice (some ⟨g,0,none⟩) 32 32) (some (.int .i64 1)) (some (.int .i64 ((k:Int)+1))) none).run Tryz.prog w=.ok (.slice (some ⟨g,1,none⟩) k 31) w:=by
  intro w;have:=jA 35 5 Tryz.underlying35 xG w (some ⟨g,0,none⟩) 32 32 1 (k+1) (by omega) (by omega);exact this
 have f1:(((k:Int)+1)==0)=false:=beq_eq_false_iff_ne.2 (by omega);have f2:(((k:Int)+1) !=0)=true:=bne_iff_ne.2 (by omega);have HK:=hid hk;clear hk;go_enter Tryz.func257,Tryz.ntmps257
 go_wp2_with (first
  | (at_builtin;refine bS (by rfl) (.tmp 87) (.tmp 89) (by rfl) (by rfl) rfl HO 1 [d] _ (by rfl) (by rfl) (by rfl) rfl (by have hkk:=HK.out;simp;try omega) ?_;intro ad1 c1 w1 O1)
  | (at_builtin;refine bS (by rfl) (.tmp 93) (.tmp 94) (by rfl) (by rfl) rfl O1 1 [46] _ (by rfl) (by rfl) (by rfl) rfl (by have hkk:=HK.out;simp;try omega) ?_;intro ad2 c2 w2 O2)
  | (at_builtin;refine aA0 (by rfl) (.tmp 103) (.tmp 107) (by rfl) (by rfl) rfl O2 (some ⟨g,1,none⟩) k 31 D (by rfl) HK.out ?src (by have hkk:=HK.out;simp;try omega) ?_;rotate_left;intro ad3 c3 w3 O3))
 case src=>exact(show IsB w2 (some ⟨g,1,none⟩) D from IsB.cut (IsB.kept HI.out O2.out.kept (fun y hy _=>by cases hy;exact hg)) 1 32 (by have hkk:=HK.out;simp;omega))
 refine wp_loop_rounds 1 ?_;rw[rounds_succ];go_wp2_with (first
  | (at_builtin;refine bS (by rfl) (.tmp 120) (.tmp 122) (by rfl) (by rfl) (by have:=HK.out;simp;omega) O3 1 [101] _ (by rfl) (by rfl) (by rfl) rfl (by have hkk:=HK.out;simp;try omega) ?_;intro ad4 c4 w4 O4)
  | (at_builtin;refine bS (by rfl) (.tmp 132) (.tmp 134) (by rfl) (by rfl) (by have:=HK.out;simp;omega) O4 1 [43] _ (by rfl) (by rfl) (by rfl) rfl (by have hkk:=HK.out;simp;try omega) ?_;intro ad5 c5 w5 O5)
  | (at_builtin;refine bS (by rfl) (.tmp 136) (.tmp 150) (by rfl) (by rfl) (by have:=HK.out;simp;omega) O5 3 [UInt8.ofNat (x / 100+48),UInt8.ofNat (x / 10%10+48),UInt8.ofNat (x%10+48)] _ (by rfl) (oG _ _ _ (x / 100+48) (x / 10%10+48) (x%10+48) (by omega) (by omega) (by omega) (by rfl) (by rfl) (by rfl)) (by rfl) rfl (by have hkk:=HK.out;simp;try omega) ?_;intro ad6 c6 w6 O6))
 go_ret;have e:aR x=[UInt8.ofNat (x / 100+48),UInt8.ofNat (x / 10%10+48),UInt8.ofNat (x%10+48)]:=by unfold aR;rw[if_neg (by omega),if_neg (by omega)]
 refine⟨ad6,c6,fD ?_,?_⟩
 ·rw[e];have hkk:=HK.out;simp;try omega
 ·have:=O6.out;rw[e];simpa using this
theorem aAk (w:World)(B g k:Nat)(ad:Option Addr)(c:Nat)(S:Nat→Prop)(d:UInt8)(D:List UInt8)(dp:Int)(x:Nat)(hO:Out w w B S ad c [])(hI:IsB w (some ⟨g,0,none⟩) (d :: D))(hg:¬S g)(_hgs:g<w.heap.size)
  (hk:D.length=k) (k1:1≤k) (k2:k≤20) (hx:dp-1=-(x:Int)) (x0:1≤x) (x2:x<10) (_d1:-2000≤dp) (_d2:dp≤2000) :
  Calls Tryz.prog 257 #[.slice ad 0 c,.bool false,.slice (some ⟨g,0,none⟩) 32 32,.int .i64 dp,.int .i64 ((k:Int)+1),.int .i64 k,.int .u8 101,.bool true] w (fT w B S (d :: 46 :: D++[101,45]++aR x)):=by
 have HO:=hid hO;have HI:=hid hI;have hc0:w.cell? ⟨g,0,none⟩=some (.int .u8 d.toNat):=by
  obtain⟨x,hx,hc⟩:=hI 0 d rfl;cases hx;exact hc
 clear hO hI;have hcut:∀w,(Instr.slice 35 (.slice (some ⟨g,0,none⟩) 32 32) (some (.int .i64 1)) (some (.int .i64 ((k:Int)+1))) none).run Tryz.prog w=.ok (.slice (some ⟨g,1,none⟩) k 31) w:=by
  intro w;have:=jA 35 5 Tryz.underlying35 xG w (some ⟨g,0,none⟩) 32 32 1 (k+1) (by omega) (by omega);exact this
 have f1:(((k:Int)+1)==0)=false:=beq_eq_false_iff_ne.2 (by omega);have f2:(((k:Int)+1) !=0)=true:=bne_iff_ne.2 (by omega);have HK:=hid hk;clear hk;go_enter Tryz.func257,Tryz.ntmps257
 go_wp2_with (first
  | (at_builtin;refine bS (by rfl) (.tmp 87) (.tmp 89) (by rfl) (by rfl) rfl HO 1 [d] _ (by rfl) (by rfl) (by rfl) rfl (by have hkk:=HK.out;simp;try omega) ?_;intro ad1 c1 w1 O1)
  | (at_builtin;refine bS (by rfl) (.tmp 93) (.tmp 94) (by rfl) (by rfl) rfl O1 1 [46] _ (by rfl) (by rfl) (by rfl) rfl (by have hkk:=HK.out;simp;try omega) ?_;intro ad2 c2 w2 O2)
  | (at_builtin;refine aA0 (by rfl) (.tmp 103) (.tmp 107) (by rfl) (by rfl) rfl O2 (some ⟨g,1,none⟩) k 31 D (by rfl) HK.out ?src (by have hkk:=HK.out;simp;try omega) ?_;rotate_left;intro ad3 c3 w3 O3))
 case src=>exact(show IsB w2 (some ⟨g,1,none⟩) D from IsB.cut (IsB.kept HI.out O2.out.kept (fun y hy _=>by cases hy;exact hg)) 1 32 (by have hkk:=HK.out;simp;omega))
 refine wp_loop_rounds 1 ?_;rw[rounds_succ];go_wp2_with (first
  | (at_builtin;refine bS (by rfl) (.tmp 120) (.tmp 122) (by rfl) (by rfl) (by have:=HK.out;simp;omega) O3 1 [101] _ (by rfl) (by rfl) (by rfl) rfl (by have hkk:=HK.out;simp;try omega) ?_;intro ad4 c4 w4 O4)
  | (at_builtin;refine bS (by rfl) (.tmp 132) (.tmp 134) (by rfl) (by rfl) (by have:=HK.out;simp;omega) O4 1 [45] _ (by rfl) (by rfl) (by rfl) rfl (by have hkk:=HK.out;simp;try omega) ?_;intro ad5 c5 w5 O5)
  | (at_builtin;refine bS (by rfl) (.tmp 155) (.tmp 159) (by rfl) (by rfl) (by have:=HK.out;simp;omega) O5 2 [48,UInt8.ofNat (x+48)] _ (by rfl) (pQ _ (x+48) (by omega) (by rfl)) (by rfl) rfl (by have hkk:=HK.out;simp;try omega) ?_;intro ad6 c6 w6 O6))
 go_ret;have e:aR x=[48,UInt8.ofNat (x+48)]:=by unfold aR;rw[if_pos x2]
 refine⟨ad6,c6,fD ?_,?_⟩
 ·rw[e];have hkk:=HK.out;simp;try omega
 ·have:=O6.out;rw[e];simpa using this
theorem aAl (w:World)(B g k:Nat)(ad:Option Addr)(c:Nat)(S:Nat→Prop)(d:UInt8)(D:List UInt8)(dp:Int)(x:Nat)(hO:Out w w B S ad c [])(hI:IsB w (some ⟨g,0,none⟩) (d :: D))(hg:¬S g)(_hgs:g<w.heap.size)
  (hk:D.length=k) (k1:1≤k) (k2:k≤20) (hx:dp-1=-(x:Int)) (x0:1≤x) (x1:10≤x) (x2:x<100) (_d1:-2000≤dp) (_d2:dp≤2000) :
  Calls Tryz.prog 257 #[.slice ad 0 c,.bool false,.slice (some ⟨g,0,none⟩) 32 32,.int .i64 dp,.int .i64 ((k:Int)+1),.int .i64 k,.int .u8 101,.bool true] w (fT w B S (d :: 46 :: D++[101,45]++aR x)):=by
 have HO:=hid hO;have HI:=hid hI;have hc0:w.cell? ⟨g,0,none⟩=some (.int .u8 d.toNat):=by
  obtain⟨x,hx,hc⟩:=hI 0 d rfl;cases hx;exact hc
 clear hO hI;have hcut:∀w,(Instr.slice 35 (.slice (some ⟨g,0,none⟩) 32 32) (some (.int .i64 1)) (some (.int .i64 ((k:Int)+1))) none).run Tryz.prog w=.ok (.slice (some ⟨g,1,none⟩) k 31) w:=by
  intro w;have:=jA 35 5 Tryz.underlying35 xG w (some ⟨g,0,none⟩) 32 32 1 (k+1) (by omega) (by omega);exact this
 have f1:(((k:Int)+1)==0)=false:=beq_eq_false_iff_ne.2 (by omega);have f2:(((k:Int)+1) !=0)=true:=bne_iff_ne.2 (by omega);have HK:=hid hk;clear hk;go_enter Tryz.func257,Tryz.ntmps257
 go_wp2_with (first
  | (at_builtin;refine bS (by rfl) (.tmp 87) (.tmp 89) (by rfl) (by rfl) rfl HO 1 [d] _ (by rfl) (by rfl) (by rfl) rfl (by have hkk:=HK.out;simp;try omega) ?_;intro ad1 c1 w1 O1)
  | (at_builtin;refine bS (by rfl) (.tmp 93) (.tmp 94) (by rfl) (by rfl) rfl O1 1 [46] _ (by rfl) (by rfl) (by rfl) rfl (by have hkk:=HK.out;simp;try omega) ?_;intro ad2 c2 w2 O2)
  | (at_builtin;refine aA0 (by rfl) (.tmp 103) (.tmp 107) (by rfl) (by rfl) rfl O2 (some ⟨g,1,none⟩) k 31 D (by rfl) HK.out ?src (by have hkk:=HK.out;simp;try omega) ?_;rotate_left;intro ad3 c3 w3 O3))
 case src=>exact(show IsB w2 (some ⟨g,1,none⟩) D from IsB.cut (IsB.kept HI.out O2.out.kept (fun y hy _=>by cases hy;exact hg)) 1 32 (by have hkk:=HK.out;simp;omega))
 refine wp_loop_rounds 1 ?_;rw[rounds_succ];go_wp2_with (first
  | (at_builtin;refine bS (by rfl) (.tmp 120) (.tmp 122) (by rfl) (by rfl) (by have:=HK.out;simp;omega) O3 1 [101] _ (by rfl) (by rfl) (by rfl) rfl (by have hkk:=HK.out;simp;try omega) ?_;intro ad4 c4 w4 O4)
  | (at_builtin;refine bS (by rfl) (.tmp 132) (.tmp 134) (by rfl) (by rfl) (by have:=HK.out;simp;omega) O4 1 [45] _ (by rfl) (by rfl) (by rfl) rfl (by have hkk:=HK.out;simp;try omega) ?_;intro ad5 c5 w5 O5)
  | (at_builtin;refine bS (by rfl) (.tmp 164) (.tmp 173) (by rfl) (by rfl) (by have:=HK.out;simp;omega) O5 2 [UInt8.ofNat (x / 10+48),UInt8.ofNat (x%10+48)] _ (by rfl) (rK _ _ (x / 10+48) (x%10+48) (by omega) (by omega) (by rfl) (by rfl)) (by rfl) rfl (by have hkk:=HK.out;simp;try omega) ?_;intro ad6 c6 w6 O6))
 go_ret;have e:aR x=[UInt8.ofNat (x / 10+48),UInt8.ofNat (x%10+48)]:=by unfold aR;rw[if_neg (by omega),if_pos x2]
 refine⟨ad6,c6,fD ?_,?_⟩
 ·rw[e];have hkk:=HK.out;simp;try omega
 ·have:=O6.out;rw[e];simpa using this
theorem aAm (w:World)(B g k:Nat)(ad:Option Addr)(c:Nat)(S:Nat→Prop)(d:UInt8)(D:List UInt8)(dp:Int)(x:Nat)(hO:Out w w B S ad c [])(hI:IsB w (some ⟨g,0,none⟩) (d :: D))(hg:¬S g)(_hgs:g<w.heap.size)
  (hk:D.length=k) (k1:1≤k) (k2:k≤20) (hx:dp-1=-(x:Int)) (x0:1≤x) (x1:100≤x) (x2:x<1000) (_d1:-2000≤dp) (_d2:dp≤2000) :
  Calls Tryz.prog 257 #[.slice ad 0 c,.bool false,.slice (some ⟨g,0,none⟩) 32 32,.int .i64 dp,.int .i64 ((k:Int)+1),.int .i64 k,.int .u8 101,.bool true] w (fT w B S (d :: 46 :: D++[101,45]++aR x)):=by
 have HO:=hid hO;have HI:=hid hI;have hc0:w.cell? ⟨g,0,none⟩=some (.int .u8 d.toNat):=by
  obtain⟨x,hx,hc⟩:=hI 0 d rfl;cases hx;exact hc
 clear hO hI;have hcut:∀w,(Instr.slice 35 (.slice (some ⟨g,0,none⟩) 32 32) (some (.int .i64 1)) (some (.int .i64 ((k:Int)+1))) none).run Tryz.prog w=.ok (.slice (some ⟨g,1,none⟩) k 31) w:=by
  intro w;have:=jA 35 5 Tryz.underlying35 xG w (some ⟨g,0,none⟩) 32 32 1 (k+1) (by omega) (by omega);exact this
 have f1:(((k:Int)+1)==0)=false:=beq_eq_false_iff_ne.2 (by omega);have f2:(((k:Int)+1) !=0)=true:=bne_iff_ne.2 (by omega);have HK:=hid hk;clear hk;go_enter Tryz.func257,Tryz.ntmps257
 go_wp2_with (first
  | (at_builtin;refine bS (by rfl) (.tmp 87) (.tmp 89) (by rfl) (by rfl) rfl HO 1 [d] _ (by rfl) (by rfl) (by rfl) rfl (by have hkk:=HK.out;simp;try omega) ?_;intro ad1 c1 w1 O1)
  | (at_builtin;refine bS (by rfl) (.tmp 93) (.tmp 94) (by rfl) (by rfl) rfl O1 1 [46] _ (by rfl) (by rfl) (by rfl) rfl (by have hkk:=HK.out;simp;try omega) ?_;intro ad2 c2 w2 O2)
  | (at_builtin;refine aA0 (by rfl) (.tmp 103) (.tmp 107) (by rfl) (by rfl) rfl O2 (some ⟨g,1,none⟩) k 31 D (by rfl) HK.out ?src (by have hkk:=HK.out;simp;try omega) ?_;rotate_left;intro ad3 c3 w3 O3))
 case src=>exact(show IsB w2 (some ⟨g,1,none⟩) D from IsB.cut (IsB.kept HI.out O2.out.kept (fun y hy _=>by cases hy;exact hg)) 1 32 (by have hkk:=HK.out;simp;omega))
 refine wp_loop_rounds 1 ?_;rw[rounds_succ];go_wp2_with (first
  | (at_builtin;refine bS (by rfl) (.tmp 120) (.tmp 122) (by rfl) (by rfl) (by have:=HK.out;simp;omega) O3 1 [101] _ (by rfl) (by rfl) (by rfl) rfl (by have hkk:=HK.out;simp;try omega) ?_;intro ad4 c4 w4 O4)
  | (at_builtin;refine bS (by rfl) (.tmp 132) (.tmp 134) (by rfl) (by rfl) (by have:=HK.out;simp;omega) O4 1 [45] _ (by rfl) (by rfl) (by rfl) rfl (by have hkk:=HK.out;simp;try omega) ?_;intro ad5 c5 w5 O5)
  | (at_builtin;refine bS (by rfl) (.tmp 136) (.tmp 150) (by rfl) (by rfl) (by have:=HK.out;simp;omega) O5 3 [UInt8.ofNat (x / 100+48),UInt8.ofNat (x / 10%10+48),UInt8.ofNat (x%10+48)] _ (by rfl) (oG _ _ _ (x / 100+48) (x / 10%10+48) (x%10+48) (by omega) (by omega) (by omega) (by rfl) (by rfl) (by rfl)) (by rfl) rfl (by have hkk:=HK.out;simp;try omega) ?_;intro ad6 c6 w6 O6))
 go_ret;have e:aR x=[UInt8.ofNat (x / 100+48),UInt8.ofNat (x / 10%10+48),UInt8.ofNat (x%10+48)]:=by unfold aR;rw[if_neg (by omega),if_neg (by omega)]
 refine⟨ad6,c6,fD ?_,?_⟩
 ·rw[e];have hkk:=HK.out;simp;try omega
 ·have:=O6.out;rw[e];simpa using this
