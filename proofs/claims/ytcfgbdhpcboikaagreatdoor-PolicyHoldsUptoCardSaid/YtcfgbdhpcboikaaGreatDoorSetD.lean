/-
internal/strconv.setDigits: the digits of a number in a buffer, and how many there are without the noughts at the end.
-/
import Derived.Test.YtcfgbdhpcboikaaGreatDoorShortB
namespace Go.Proofs.YtcfgbdhpcboikaaGreatDoor
open Go.Lib (hid)
set_option maxHeartbeats 16000000
set_option maxRecDepth 100000
open Go.RowKit Go.Sort
def bN (l:List UInt8):Nat:=(l.reverse.dropWhile (· == 48)).length
theorem iU (l:List UInt8):bN l≤l.length:=by
 unfold bN;have:∀(r:List UInt8),(r.dropWhile (· == 48)).length≤r.length:=by
  intro r;induction r with
  | nil=>simp
  | cons a r ih=>rw[List.dropWhile_cons];split<;>simp<;>omega
 have:=this l.reverse;simpa using this
theorem lT (l:List UInt8)(c:UInt8):bN (l++[c])=if c=48 then bN l else l.length+1:=by
 unfold bN;rw[List.reverse_append,List.reverse_singleton,List.singleton_append,List.dropWhile_cons];by_cases h:c=48
 ·simp[h]
 ·simp[h]
theorem aKy (l:List UInt8)(k:Nat)(hk:k<l.length)(h:l[k]=48)(ht:bN (l.take (k+1))=bN l):bN (l.take k)=bN l:=by
 rw[←ht,List.take_succ_eq_append_getElem hk,lT,if_pos h]
theorem aKx (l:List UInt8)(k:Nat)(hk:k<l.length)(h:l[k]≠48)(ht:bN (l.take (k+1))=bN l):bN l=k+1:=by
 rw[←ht,List.take_succ_eq_append_getElem hk,lT,if_neg h,List.length_take];omega
theorem gM (u:Nat)(h:u<18446744073709551616):Lib.nDigits u≤20:=by
 have h0:=Lib.nDigits_pos u;rcases Nat.lt_or_ge 20 (Lib.nDigits u)with h1|h1
 ·exfalso;by_cases hu:u=0
  ·rw[hu,Lib.nDigits_small (by omega)]at h1
   omega
  ·have:=Lib.numDigits_eq u (by omega) h;have h2:(if 10^Lib.l10 (Lib.bitLen u)≤u then 1 else 0)≤1:=by split<;>omega
   omega
 ·exact h1
theorem aFV (w:World)(g off:Nat)(dk:Array UInt8):aD (· = g) w (putRow (fun(b:UInt8)=>Value.int .u8 (b.toNat:Int)) w g off dk) :=
 ⟨rfl,rfl,rfl,by simp,fun k _ hn=>by
  show(w.heap.modify g _)[k]?=_;rw[Array.getElem?_modify,if_neg (fun e=>hn e.symm)]⟩
theorem aHQ (w:World)(g n c h:Nat)(h1:h≤c):(Instr.slice 35 (.slice (some ⟨g,0,none⟩) n c) none (some (.int .i64 h)) none).run Tryz.prog w=.ok (.slice (some ⟨g,0,none⟩) h c) w:=by
 exact aKb 35 5 Tryz.underlying35 (by kernel_rfl) w _ n c h h1
theorem wH (g d K:Nat)(p:Int)(N:Nat)(w:World)(hH:Holds (fun(b:UInt8)=>Value.int .u8 (b.toNat:Int)) w g 0 (Array.replicate K 0))(hK:20≤K)(_hd1:1≤d)(hd:d<18446744073709551616)(hN:Lib.nDigits d=N)(p1:-2000≤p)(p2:p≤2000) :
  Calls Tryz.prog 259 #[.slice (some ⟨g,0,none⟩) K K,.int .u64 d,.int .i64 p,.int .i64 N] w
   fun e w'=>e=.returned (.tuple #[.int .i64 (N+p),.int .i64 (bN (Lib.decDigits d):Nat)])∧IsB w' (some ⟨g,0,none⟩) (Lib.decDigits d)∧aD (· = g) w w':=by
 have n20:N≤20:=by rw[←hN];exact gM d hd
 have hN1:1≤N:=by rw[←hN];exact Lib.nDigits_pos d
 have hHN:Holds (fun(b:UInt8)=>Value.int .u8 (b.toNat:Int)) w g 0 (Array.replicate N 0):=by
  intro j hj;have hj':j<N:=by simpa using hj
  have:=hH j (by simp;omega);rw[getElem!_pos _ j (by simp;omega)]at this
  rw[getElem!_pos _ j hj];simpa using this
 have hlt:d<10^(Array.replicate N (0:UInt8)).size:=by rw[Array.size_replicate,←hN];exact Lib.lt_pow_nDigits d
 have FB:=fun cap=>Tryz.internal_strconv_formatBase10 g 0 cap d (Array.replicate N 0) w hHN hlt hd (by simp;omega)
 rw[Array.size_replicate]at FB
 have c1:=fun w=>aHQ w g K K N (by omega)
 have hdl:(Lib.decDigits d).length=N:=by rw[Lib.decDigits_length,hN]
 have HFB:=hid FB;have HHN:=hid hHN;have HNN:=hid hN;have HDL:=hid hdl;clear FB hlt hHN hH hN hdl;go_enter Tryz.func259,Tryz.ntmps259
 go_wp2_with fail
 refine(HFB.out _).mono ?_;rintro e w1 ⟨rfl,n,v',dk,hw1,F⟩;have K1:aD (· = g) w w1:=by rw[hw1];exact(aFV w g 0 dk).drewN n
 have hds:dk.size=N:=F.size;have S1:IsB w1 (some ⟨g,0,none⟩) (Lib.decDigits d):=by
  intro j b hb;have hj:j<N:=by
   rcases Nat.lt_or_ge j N with h1|h1
   ·exact h1
   ·rw[List.getElem?_eq_none (by rw[HDL.out];exact h1)]at hb;cases hb
  refine⟨_,rfl,?_⟩;rw[Lib.add_plain,hw1];have hr:=Lib.row_is_numeral (u:=d) (v':=v') (dk:=dk) (by rw[HNN.out];exact F) j (by rw[HDL.out];exact hj);have hb':(Lib.decDigits d)[j]'(by rw[HDL.out];exact hj)=b:=by
   rw[List.getElem?_eq_getElem (by rw[HDL.out];exact hj)]at hb
   exact Option.some.inj hb
  show(putRow _ w g 0 dk).cell? ⟨g,0+j,none⟩=_;rw[cell?_putRow _ w g 0 (Array.replicate N 0) dk HHN.out (by simpa using hds) j (by omega),←hr,hb'];rfl
 have HK:=hid K1;have HS:=hid S1;clear K1 S1 hds F hw1;go_wp2_with fail
 go_loopg [3] N (fun k nd wx=>∃(j:Nat),nd=.int .i64 j∧j≤N∧bN ((Lib.decDigits d).take j)=bN (Lib.decDigits d)∧k=j∧wx=w1)
 case atStart=>exact⟨N,rfl,Nat.le_refl _,by rw[List.take_of_length_le (by rw[HDL.out];exact Nat.le_refl _)],rfl,rfl⟩
 case round =>
  obtain⟨j,rfl,hj,ht,hk,hwx⟩:=hrel;subst hwx;have HTR:=hid ht;have HKK:=hid hk;clear ht hk;by_cases h0:j=0
  ·have hp:¬(0:Int)<j:=by omega
   have H0:=hid h0;clear h0;go_wp2
   go_ret2;refine⟨?_,HS.out,HK.out⟩;have:=HTR.out;rw[H0.out]at this ⊢
   rw[←this];rfl
  ·obtain⟨i,hi⟩:∃i,j=i+1:=⟨j-1,by omega⟩
   subst hi;have hil:i<(Lib.decDigits d).length:=by rw[HDL.out];omega
   have hcell:=HS.out i ((Lib.decDigits d)[i]) (List.getElem?_eq_getElem hil);obtain⟨x,hx,hc⟩:=hcell;cases hx;rw[Lib.add_plain]at hc
   have hc':wr.cell? ⟨g,i,none⟩=some (.int .u8 ((Lib.decDigits d)[i].toNat)):=by simpa [cX]using hc
   have ht':=aKy (Lib.decDigits d) i hil;have hs':=aKx (Lib.decDigits d) i hil;have HT2:=hid ht';have HS2:=hid hs';clear hc ht' hs' h0;obtain⟨c,hcc⟩:∃c,(Lib.decDigits d)[i]=c:=⟨_,rfl⟩
   rw[hcc]at hc'
   have HC:=hid hcc;clear hcc;by_cases h48:c=48
   ·have f1:((c.toNat:Int)==48)=true:=by rw[h48];rfl
    have H48:=hid h48;clear h48;go_wp2
    go_roundg i
    case measure=>have:=HKK.out;omega
    case rel=>exact⟨i,by go_num,by omega,HT2.out (by rw[HC.out,H48.out]) HTR.out,rfl,rfl⟩
   ·have f1:((c.toNat:Int)==48)=false:=beq_eq_false_iff_ne.2 (by intro e;exact h48 (UInt8.toNat_inj.1 (by simp;omega)));have H48:=hid h48;clear h48;go_wp2
    go_ret2;refine⟨?_,HS.out,HK.out⟩;rw[HS2.out (by rw[HC.out];exact H48.out) HTR.out];rfl
open Go.RowKit
structure Out (w0 w:World) (B:Nat) (S:Nat→Prop) (ad:Option Addr) (c:Nat) (bs:List UInt8):Prop where
 own:gW w B 5 ad c bs
 kept:aD S w0 w
 lies:∀y,ad=some y→S y.block∨w0.heap.size≤y.block
 base:B≤w.heap.size
theorem Out.alloc {w0 w:World}{B:Nat}{S:Nat→Prop}{ad:Option Addr}{c:Nat}{bs:List UInt8}(h:Out w0 w B S ad c bs)(o:Obj):Out w0 (w.alloc o) B S ad c bs :=
 ⟨h.own.kept ((aD.refl (fun _=>False) w).alloc o) (fun _ _ h=>h),h.kept.alloc o,h.lies,by have:=h.base;simp;omega⟩
theorem Out.drewN {w0 w:World}{B:Nat}{S:Nat→Prop}{ad:Option Addr}{c:Nat}{bs:List UInt8}(h:Out w0 w B S ad c bs)(n:Nat):Out w0 (w.drewN n) B S ad c bs :=
 ⟨h.own.kept ((aD.refl (fun _=>False) w).drewN n) (fun _ _ h=>h),h.kept.drewN n,h.lies,h.base⟩
theorem Out.next {w0 w w':World}{B:Nat}{S:Nat→Prop}{ad ad':Option Addr}{c c':Nat}{bs bs':List UInt8}(h:Out w0 w B S ad c bs)
  (ho:gW w' B 5 ad' c' bs') (hk:aD (fun k=>ad.map (·.block)=some k) w w') (ha:∀y,ad'=some y→ad.map (·.block)=some y.block∨w.heap.size≤y.block):Out w0 w' B S ad' c' bs':=by
 have hs:=h.kept.size;refine⟨ho,h.kept.trans' hk ?_,?_,Nat.le_trans h.base hk.size⟩
 ·intro i hi e;cases ad with
  | none=>cases e
  | some y =>
   have e':y.block=i:=by simpa using e
   rcases h.lies y rfl with h1|h1
   ·rwa[e']at h1
   ·omega
 ·intro y hy;rcases ha y hy with h1|h1
  ·cases ad with
   | none=>cases h1
   | some z =>
    have e':z.block=y.block:=by simpa using h1
    rw[←e'];exact h.lies z rfl
  ·exact .inr (by omega)
section
variable {P:Program} {w:World} {ops:Array Oper} {rest:List Oper} {o:Oper} {a:Act} {Q:Exit→Act→World→Prop}
theorem rX (hgd:o.guard=none)(s x:Operand)(t:TypeId)
  (ho:o.op=.call { callee:=.builtin .append,args:=#[s,x],argTypes:=#[t,t] })
  (i:TypeInfo) (ht:P.underlying t=some (.slice 5)) (hi:P.info? 5=some i) (hz:i.zero=some (.int .u8 0)) (hsize:i.size=1) (hby:i.bytes=1)
  {w0:World} {B:Nat} {S:Nat→Prop} (ad:Option Addr) (n c:Nat) (bs:List UInt8) (hs:a.eval s=.slice ad n c) (hn:bs.length=n) (hO:Out w0 w B S ad c bs)
  (sp:Option Addr) (m sc:Nat) (cs:List UInt8) (hx:a.eval x=.slice sp m sc) (hm:cs.length=m) (hsrc:IsB w sp cs) (hb:n+m≤1000000)
  (h:∀ad' c' w',Hid (Out w0 w' B S ad' c' (bs++cs))→wpList P ops Q rest (a.put o.dst (.slice ad' (n+m:Nat) c')) w'):wpList P ops Q (o :: rest) a w :=
 aCD hgd s x t ho B 5 i ht hi hz hsize hby ad n c bs hs hn hO.own sp m sc cs hx hm hsrc (by omega) hO.base
  (fun ad' c' w' h1 h2 h3=>h ad' c' w' (show Out _ _ _ _ _ _ _ from hO.next h1.out h2 h3))
theorem aAR (hgd:o.guard=none)(s x:Operand)(t:TypeId)
  (ho:o.op=.call { callee:=.builtin .append,args:=#[s,x],argTypes:=#[t,t] })
  (i:TypeInfo) (ht:P.underlying t=some (.slice 5)) (hi:P.info? 5=some i) (hz:i.zero=some (.int .u8 0)) (hsize:i.size=1) (hby:i.bytes=1)
  {w0 w1:World} {B:Nat} {S:Nat→Prop} (ad:Option Addr) (n c:Nat) (bs:List UInt8) (hs:a.eval s=.slice ad n c) (hn:bs.length=n) (hO:Out w0 w1 B S ad c bs)
  (m sc:Nat) (cs:List UInt8) (vs:Array Value) (hw:w=w1.alloc (.cells vs 5)) (hvs:vs=(cs.map cX).toArray) (hx:a.eval x=.slice (some ⟨w1.heap.size,0,none⟩) m sc) (hm:cs.length=m) (hb:n+m≤1000000)
  (h:∀ad' c' w',Hid (Out w0 w' B S ad' c' (bs++cs))→wpList P ops Q rest (a.put o.dst (.slice ad' (n+m:Nat) c')) w'):wpList P ops Q (o :: rest) a w:=by
 subst hw;subst hvs;exact rX hgd s x t ho i ht hi hz hsize hby ad n c bs hs hn (hO.alloc _) _ m sc cs hx hm (IsB.of_heap (arr:=cs) (heap_alloc_new w1 _) 0) hb h
end
def cG (x:Nat):List UInt8 :=
 if x<10 then [48,UInt8.ofNat (x+48)]else if x<100 then [UInt8.ofNat (x / 10+48),UInt8.ofNat (x%10+48)]
 else [UInt8.ofNat (x / 100+48),UInt8.ofNat (x / 10%10+48),UInt8.ofNat (x%10+48)]
def eN (D:List UInt8)(x:Int):List UInt8 :=
 D.take 1++(if 1<D.length then 46 :: D.drop 1 else [])++[101,if x<0 then 45 else 43]++cG x.natAbs
open Go.RowKit
theorem aEo:(Tryz.prog.info? 5).map (fun i=>(i.zero,i.size,i.bytes))=some (some (.int .u8 0),1,1):=by kernel_rfl
theorem aQ6:(Tryz.prog.info? 5).map (·.size)=some 1:=by kernel_rfl
theorem oM (x:Nat)(h:x<256):cX (UInt8.ofNat x)=.int .u8 (x:Int):=by
 unfold cX;rw[UInt8.toNat_ofNat_of_lt' (by simpa using h)]
theorem aHy (z:Value)(x:Nat)(h:x<256)(hz:z=.int .u8 (x:Int)):(#[.int .u8 48,z]:Array Value)=([48,UInt8.ofNat x].map cX).toArray:=by
 rw[List.map_cons,List.map_cons,List.map_nil,oM x h,hz];rfl
theorem aKB (z1 z2:Value)(x y:Nat)(hx:x<256)(hy:y<256)(h1:z1=.int .u8 (x:Int))(h2:z2=.int .u8 (y:Int)):(#[z1,z2]:Array Value)=([UInt8.ofNat x,UInt8.ofNat y].map cX).toArray:=by
 rw[List.map_cons,List.map_cons,List.map_nil,oM x hx,oM y hy,h1,h2]
theorem aGa (z1 z2 z3:Value)(x y z:Nat)(hx:x<256)(hy:y<256)(hz:z<256)(h1:z1=.int .u8 (x:Int))(h2:z2=.int .u8 (y:Int))(h3:z3=.int .u8 (z:Int)):(#[z1,z2,z3]:Array Value)=([UInt8.ofNat x,UInt8.ofNat y,UInt8.ofNat z].map cX).toArray:=by
 rw[List.map_cons,List.map_cons,List.map_cons,List.map_nil,oM x hx,oM y hy,oM z hz,h1,h2,h3]
theorem aJ2 {a:Option Addr}{n m c:Nat}(h:n=m):Ending.returned (.slice a n c)=.returned (.slice a m c):=by rw[h]
def tU (w:World)(B:Nat)(S:Nat→Prop)(bs:List UInt8)(e:Ending)(w':World):Prop :=
 ∃ad c,e=.returned (.slice ad bs.length c)∧Out w w' B S ad c bs
section
variable {w:World} {ops:Array Oper} {rest:List Oper} {o:Oper} {a:Act} {Q:Exit→Act→World→Prop}
theorem vA (hgd:o.guard=none)(s x:Operand)(ho:o.op=.call { callee:=.builtin .append,args:=#[s,x],argTypes:=#[35,35] })
  {w0 w1:World} {B:Nat} {S:Nat→Prop} {ad:Option Addr} {n c:Nat} {bs:List UInt8} (hs:a.eval s=.slice ad n c) (hn:bs.length=n) (hO:Hid (Out w0 w1 B S ad c bs))
  (m:Nat) (cs:List UInt8) (vs:Array Value) (hw:w=w1.alloc (.cells vs 5)) (hvs:vs=(cs.map cX).toArray) (hx:a.eval x=.slice (some ⟨w1.heap.size,0,none⟩) m m) (hm:cs.length=m) (hb:n+m≤1000000)
  (h:∀ad' c' w',Hid (Out w0 w' B S ad' c' (bs++cs))→wpList Tryz.prog ops Q rest (a.put o.dst (.slice ad' (n+m:Nat) c')) w'):wpList Tryz.prog ops Q (o :: rest) a w:=by
 obtain⟨i0,hi,hz0,hz1,hz2⟩:=info_parts aEo;exact aAR hgd s x 35 ho i0 Tryz.underlying35 hi hz0 hz1 hz2 ad n c bs hs hn hO.out m m cs vs hw hvs hx hm hb h
theorem aRb (hgd:o.guard=none)(s x:Operand)(ho:o.op=.call { callee:=.builtin .append,args:=#[s,x],argTypes:=#[35,35] })
  {w0:World} {B:Nat} {S:Nat→Prop} {ad:Option Addr} {n c:Nat} {bs:List UInt8} (hs:a.eval s=.slice ad n c) (hn:bs.length=n) (hO:Hid (Out w0 w B S ad c bs))
  (sa:Option Addr) (m sc:Nat) (cs:List UInt8) (hx:a.eval x=.slice sa m sc) (hm:cs.length=m) (hI:IsB w sa cs) (hb:n+m≤1000000)
  (h:∀ad' c' w',Hid (Out w0 w' B S ad' c' (bs++cs))→wpList Tryz.prog ops Q rest (a.put o.dst (.slice ad' (n+m:Nat) c')) w'):wpList Tryz.prog ops Q (o :: rest) a w:=by
 obtain⟨i0,hi,hz0,hz1,hz2⟩:=info_parts aEo;exact rX hgd s x 35 ho i0 Tryz.underlying35 hi hz0 hz1 hz2 ad n c bs hs hn hO.out sa m sc cs hx hm hI hb h
end
theorem aCM (d:UInt8)(x:Int):eN [d] x=d :: [101,if x<0 then 45 else 43]++cG x.natAbs:=by simp[eN]
theorem aA9 (d:UInt8)(D:List UInt8)(x:Int)(h:1≤D.length):eN (d :: D) x=d :: 46 :: D++[101,if x<0 then 45 else 43]++cG x.natAbs:=by
 have:1<(d :: D).length:=by simp;omega
 unfold eN;rw[if_pos this];simp
theorem aHg (d:UInt8)(D:List UInt8)(z:Nat)(x:Int):eN (d :: D++List.replicate z 48) x=(d :: if D.length+z=0 then []else 46 :: (D++List.replicate z 48))++[101,if x<0 then 45 else 43]++cG x.natAbs:=by
 split
 ·rename_i h;obtain rfl:D=[]:=List.eq_nil_of_length_eq_zero (by omega);obtain rfl:z=0:=by simp at h;omega
  exact aCM d x
 ·rename_i h;have:=aA9 d (D++List.replicate z 48) x (by simp;omega);simpa using this
theorem aMM (w:World)(B g k z K:Nat)(ad:Option Addr)(c:Nat)(S:Nat→Prop)(D:List UInt8)(dp:Int)(sh:Bool)(hO:Out w w B S ad c [])(hI:IsB w (some ⟨g,0,none⟩) D)(hg:¬S g)(_hgs:g<w.heap.size)
  (hk:D.length=k+1) (k2:k+z≤20) (hK:k+2≤K) (hK2:K≤40) (x1:-999≤dp-1) (x2:dp-1≤999) :
  Calls Tryz.prog 257 #[.slice ad 0 c,.bool false,.slice (some ⟨g,0,none⟩) K K,.int .i64 dp,.int .i64 ((k:Int)+1),.int .i64 ((k:Int)+z),.int .u8 101,.bool sh] w (tU w B S (eN (D++List.replicate z 48) (dp-1))):=by
 obtain⟨d,D',rfl⟩:∃d D',D=d :: D':=by
  cases D with
  | nil=>simp at hk
  | cons d D'=>exact⟨d,D',rfl⟩
 rw[aHg];have hk':D'.length=k:=by simpa using hk
 have HO:=hid hO;have HI:=hid hI;have hc0:w.cell? ⟨g,0,none⟩=some (.int .u8 d.toNat):=by
  obtain⟨x,hx,hc⟩:=hI 0 d rfl;cases hx;exact hc
 have HI1:Hid (IsB w (some ⟨g,1,none⟩) D'):=by
  have:=IsB.cut hI 1 K (by rw[hk];omega);rw[if_neg (by omega)]at this
  exact this
 clear hO hI hk;have hcut:∀w,(Instr.slice 35 (.slice (some ⟨g,0,none⟩) K K) (some (.int .i64 1)) (some (.int .i64 ((k:Int)+1))) none).run Tryz.prog w=.ok (.slice (some ⟨g,1,none⟩) k (K-1)) w:=by
  intro w;have:=vU 35 5 Tryz.underlying35 aQ6 w (some ⟨g,0,none⟩) K K 1 (k+1) (by omega) (by omega);rw[if_neg (by omega)]at this
  exact this
 have f1:(((k:Int)+1)==0)=false:=beq_eq_false_iff_ne.2 (by omega);have f2:(((k:Int)+1) !=0)=true:=bne_iff_ne.2 (by omega);have hm:min ((k:Int)+1) ((k:Int)+z+1)=(k:Int)+1:=by omega
 have HK:=hid hk';clear hk';obtain⟨e,he⟩:∃e,dp-1=e:=⟨_,rfl⟩
 obtain⟨x,hx⟩:∃x,e.natAbs=x:=⟨_,rfl⟩
 rw[he,hx];obtain⟨bs,hbs⟩:∃bs,(d :: if D'.length+z=0 then []else 46 :: (D'++List.replicate z 48))=bs:=⟨_,rfl⟩
 rw[hbs];have HBS:=hid hbs;obtain⟨LL,hLL⟩:∃LL,bs.length=LL:=⟨_,rfl⟩
 have HLL:=hid hLL;have hl2:LL≤30:=by
  rw[←hLL,←hbs];have:=HK.out;split<;>simp<;>omega
 clear hbs hLL;obtain⟨sg,hsg⟩:∃sg:UInt8,(if e<0 then (45:UInt8)else 43)=sg:=⟨_,rfl⟩
 rw[hsg];have hx3:x<10∨10≤x∧x<100∨100≤x∧x<1000:=by omega
 go_enter Tryz.func257,Tryz.ntmps257
 go_upto_if 92 with(at_builtin;refine vA (by rfl) (.tmp 87) (.tmp 89) (by rfl) (by rfl) rfl HO 1 [d] _ (by rfl) (by rfl) (by rfl) rfl (by simp;try omega) ?_;intro ad1 c1 w1 O1)
 go_cut [0] (fun s wx=>∃ad3 c3,s=.slice ad3 LL c3∧Hid (Out w wx B S ad3 c3 bs))
 case first =>
  rcases Nat.eq_zero_or_pos (k+z)with h0|h0
  ·have hb:bs=[d]:=by rw[←HBS.out,if_pos (by have:=HK.out;omega)]
   have hb2:LL=1:=by rw[←HLL.out,hb];rfl
   subst hb hb2;go_wp2
   go_meet;exact⟨_,_,rfl,O1⟩
  ·have hb:bs=d :: 46 :: (D'++List.replicate z 48):=by rw[←HBS.out,if_neg (by have:=HK.out;omega)]
   have hb2:LL=k+2+z:=by rw[←HLL.out,hb];simp[HK.out];omega
   subst hb hb2;clear HBS HLL;rcases Nat.lt_or_ge k 1 with hk0|hk0
   all_goals
    go_wp2_with (first
     | (at_builtin;refine vA (by rfl) (.tmp 93) (.tmp 94) (by rfl) (by rfl) rfl O1 1 [46] _ (by rfl) (by rfl) (by rfl) rfl (by have hkk:=HK.out;simp;try omega) ?_;intro ad2 c2 w2 O2)
     | (at_builtin;refine aRb (by rfl) (.tmp 103) (.tmp 107) (by rfl) (by rfl) rfl O2 (some ⟨g,1,none⟩) k (K-1) D' (by rfl) HK.out (IsB.kept HI1.out O2.out.kept (fun y hy _=>by cases hy;exact hg)) (by have hkk:=HK.out;simp;try omega) ?_;intro ad3 c3 w3 O3))
   all_goals
    go_loopw [0,114] (fun r i wx=>∃(j n:Nat) (a:Option Addr) (c':Nat),r=.slice a n c'∧i=.int .i64 j∧Hid (n=k+2+j∧j≤z∧Out w wx B S a c' (d :: 46 :: D'++List.replicate j 48))) (fun _ i _=>z-(intOf i).toNat)
    case atStart =>
     refine⟨0,_,_,_,rfl,rfl,hid ⟨by omega,by omega,?_⟩⟩;first
     | simpa using O3.out
     | (have:=HK.out;have hD:D'=[]:=List.eq_nil_of_length_eq_zero (by omega);rw[hD];simpa using O2.out)
    case round =>
     obtain⟨j,n,a,c',rfl,rfl,hR⟩:=hrel;have hn:=hR.out.1;have HR2:=hid hR.out.2.2;rcases Nat.lt_or_ge j z with hlt|hge
     ·go_wp2_with (at_builtin;refine vA (by rfl) (.tmp 116) (.tmp 117) (by rfl) (by rfl) (by have:=HK.out;simp;omega) HR2 1 [48] _ (by rfl) (by rfl) (by rfl) rfl (by omega) ?_;intro ad5 c5 w5 O5)
      go_roundw
      case rel=>exact⟨j+1,_,_,_,rfl,by go_num,hid ⟨by omega,by omega,by have:=O5.out;rw[List.replicate_succ'];simpa using this⟩⟩
      case measure=>simp[intOf];omega
     ·obtain rfl:j=z:=by have:=hR.out.2.1;omega
      go_wp2
      go_meet;exact⟨_,_,by rw[hn],by simpa using HR2⟩
 case rest =>
  obtain⟨ad3,c3,rfl,O3⟩:=hcut;have hse:e=(x:Int)∧sg=43∨e=-(x:Int)∧1≤x∧sg=45:=by
   rw[←hsg];by_cases hs:e<0
   ·exact .inr ⟨by omega,by omega,if_pos hs⟩
   ·exact .inl ⟨by omega,if_neg hs⟩
  clear hsg;rcases hse with⟨hs,rfl⟩|⟨hs,hs1,rfl⟩
  all_goals (rcases hx3 with hx1|⟨hx0,hx1⟩|⟨hx0,hx1⟩)
  all_goals
   go_wp2_with (first
    | (at_builtin;refine vA (by rfl) (.tmp 120) (.tmp 122) (by rfl) (by rfl) HLL.out O3 1 [101] _ (by rfl) (by rfl) (by rfl) rfl (by omega) ?_;intro ad4 c4 w4 O4)
    | (at_builtin;refine vA (by rfl) (.tmp 132) (.tmp 134) (by rfl) (by rfl) (by simp[HLL.out]) O4 1 [43] _ (by rfl) (by rfl) (by rfl) rfl (by omega) ?_;intro ad5 c5 w5 O5)
    | (at_builtin;refine vA (by rfl) (.tmp 132) (.tmp 134) (by rfl) (by rfl) (by simp[HLL.out]) O4 1 [45] _ (by rfl) (by rfl) (by rfl) rfl (by omega) ?_;intro ad5 c5 w5 O5)
    | (at_builtin;refine vA (by rfl) (.tmp 155) (.tmp 159) (by rfl) (by rfl) (by simp[HLL.out]) O5 2 [48,UInt8.ofNat (x+48)] _ (by rfl) (aHy _ (x+48) (by omega) (by rfl)) (by rfl) rfl (by omega) ?_;intro ad6 c6 w6 O6)
    | (at_builtin;refine vA (by rfl) (.tmp 164) (.tmp 173) (by rfl) (by rfl) (by simp[HLL.out]) O5 2 [UInt8.ofNat (x / 10+48),UInt8.ofNat (x%10+48)] _ (by rfl) (aKB _ _ (x / 10+48) (x%10+48) (by omega) (by omega) (by rfl) (by rfl)) (by rfl) rfl (by omega) ?_;intro ad6 c6 w6 O6)
    | (at_builtin;refine vA (by rfl) (.tmp 136) (.tmp 150) (by rfl) (by rfl) (by simp[HLL.out]) O5 3 [UInt8.ofNat (x / 100+48),UInt8.ofNat (x / 10%10+48),UInt8.ofNat (x%10+48)] _ (by rfl) (aGa _ _ _ (x / 100+48) (x / 10%10+48) (x%10+48) (by omega) (by omega) (by omega) (by rfl) (by rfl) (by rfl)) (by rfl) rfl (by omega) ?_;intro ad6 c6 w6 O6))
  all_goals go_ret
  all_goals unfold cG
  all_goals (first|rw[if_neg (by omega),if_pos hx1]|rw[if_neg (by omega),if_neg (by omega)]|rw[if_pos hx1])
  all_goals
   refine⟨ad6,c6,aJ2 ?_,?_⟩
   ·have:=HLL.out;simp;omega
   ·have:=O6.out;simpa using this
theorem aI6 (w:World)(B g k:Nat)(ad:Option Addr)(c:Nat)(S:Nat→Prop)(D:List UInt8)(dp:Int)(hO:Out w w B S ad c [])(hI:IsB w (some ⟨g,0,none⟩) D)(hg:¬S g)(hgs:g<w.heap.size)
  (hk:D.length=k+1) (k2:k≤20) (x1:-999≤dp-1) (x2:dp-1≤999) :
  Calls Tryz.prog 257 #[.slice ad 0 c,.bool false,.slice (some ⟨g,0,none⟩) 32 32,.int .i64 dp,.int .i64 ((k:Int)+1),.int .i64 k,.int .u8 101,.bool true] w (tU w B S (eN D (dp-1))):=by
 have h:=aMM w B g k 0 32 ad c S D dp true hO hI hg hgs hk (by omega) (by omega) (by omega) x1 x2;rw[List.replicate_zero,List.append_nil,show((k:Int)+((0:Nat):Int))=k by omega]at h
 exact h
end Go.Proofs.YtcfgbdhpcboikaaGreatDoor
