/-
internal/strconv.fmtEFG in the form 'e': all ways in one.
-/
import Derived.Test.YtcfgbdhpcboikaaGreatDoorFmtE
import Derived.Test.YtcfgbdhpcboikaaGreatDoorSched
import Derived.Lib.SmallJoins
namespace Go.Proofs.YtcfgbdhpcboikaaGreatDoor
open Go.Lib (hid)
set_option maxHeartbeats 1500000
set_option maxRecDepth 100000
open Go.RowKit
theorem qZ {n:Nat}:n≤n:=Nat.le_refl n
theorem aBL (d:UInt8)(x:Int):lQ [d] x=d :: [101,if x<0 then 45 else 43]++aR x.natAbs:=by simp[lQ]
theorem zZ (d:UInt8)(D:List UInt8)(x:Int)(h:1≤D.length):lQ (d :: D) x=d :: 46 :: D++[101,if x<0 then 45 else 43]++aR x.natAbs:=by
 have:1<(d :: D).length:=by simp;omega
 unfold lQ;rw[if_pos this];simp
theorem aKa (w:World)(B g k:Nat)(ad:Option Addr)(c:Nat)(S:Nat→Prop)(D:List UInt8)(dp:Int)(hO:Out w w B S ad c [])(hI:IsB w (some ⟨g,0,none⟩) D)(hg:¬S g)(hgs:g<w.heap.size)
  (hk:D.length=k+1) (k2:k≤20) (x1:-999≤dp-1) (x2:dp-1≤999) :
  Calls Tryz.prog 257 #[.slice ad 0 c,.bool false,.slice (some ⟨g,0,none⟩) 32 32,.int .i64 dp,.int .i64 ((k:Int)+1),.int .i64 k,.int .u8 101,.bool true] w (fT w B S (lQ D (dp-1))):=by
 obtain⟨d,D',rfl⟩:∃d D',D=d :: D':=by
  cases D with
  | nil=>simp at hk
  | cons d D'=>exact⟨d,D',rfl⟩
 have hk':D'.length=k:=by simpa using hk
 by_cases hs:dp-1<0
 ·obtain⟨x,hx⟩:∃x:Nat,dp-1=-(x:Int):=⟨(dp-1).natAbs,by omega⟩
  have hab:(dp-1).natAbs=x:=by omega
  by_cases h0:k=0
  ·subst h0;obtain rfl:D'=[]:=List.eq_nil_of_length_eq_zero hk';rw[aBL,if_pos hs,hab];rcases Nat.lt_or_ge x 10 with h|h
   ·exact aBb w B g ad c S d dp x hO hI hx (by omega) h (by omega) (by omega)
   ·rcases Nat.lt_or_ge x 100 with h'|h'
    ·exact aBc w B g ad c S d dp x hO hI hx (by omega) h h' (by omega) (by omega)
    ·exact aBd w B g ad c S d dp x hO hI hx (by omega) h' (by omega) (by omega) (by omega)
  ·rw[zZ d D' _ (by omega),if_pos hs,hab];rcases Nat.lt_or_ge x 10 with h|h
   ·exact aAk w B g k ad c S d D' dp x hO hI hg hgs hk' (by omega) k2 hx (by omega) h (by omega) (by omega)
   ·rcases Nat.lt_or_ge x 100 with h'|h'
    ·exact aAl w B g k ad c S d D' dp x hO hI hg hgs hk' (by omega) k2 hx (by omega) h h' (by omega) (by omega)
    ·exact aAm w B g k ad c S d D' dp x hO hI hg hgs hk' (by omega) k2 hx (by omega) h' (by omega) (by omega) (by omega)
 ·obtain⟨x,hx⟩:∃x:Nat,dp-1=(x:Int):=⟨(dp-1).natAbs,by omega⟩
  have hab:(dp-1).natAbs=x:=by omega
  by_cases h0:k=0
  ·subst h0;obtain rfl:D'=[]:=List.eq_nil_of_length_eq_zero hk';rw[aBL,if_neg hs,hab];rcases Nat.lt_or_ge x 10 with h|h
   ·exact aBe w B g ad c S d dp x hO hI hx h (by omega) (by omega)
   ·rcases Nat.lt_or_ge x 100 with h'|h'
    ·exact aBf w B g ad c S d dp x hO hI hx h h' (by omega) (by omega)
    ·exact aBg w B g ad c S d dp x hO hI hx h' (by omega) (by omega) (by omega)
  ·rw[zZ d D' _ (by omega),if_neg hs,hab];rcases Nat.lt_or_ge x 10 with h|h
   ·exact aAn w B g k ad c S d D' dp x hO hI hg hgs hk' (by omega) k2 hx h (by omega) (by omega)
   ·rcases Nat.lt_or_ge x 100 with h'|h'
    ·exact aAo w B g k ad c S d D' dp x hO hI hg hgs hk' (by omega) k2 hx h h' (by omega) (by omega)
    ·exact aAp w B g k ad c S d D' dp x hO hI hg hgs hk' (by omega) k2 hx h' (by omega) (by omega) (by omega)
open Go.RowKit Go.Sort
theorem aAZ (E:Nat)(h:E≤2047):bits .and .i64 (E:Int) 2047=E:=by
 have:=xN E 2047 (by omega) (by omega);rw[show(2047:Nat)=2^11-1 from rfl,Nat.and_two_pow_sub_one_eq_mod]at this
 rw[Nat.mod_eq_of_lt (by omega)]at this
 exact this
theorem aJ5 (b:Nat)(h:b<18446744073709551616):bits .and .u64 (b:Int) 4503599627370495=((b%4503599627370496:Nat):Int):=by
 have:=u64_and_nat b 4503599627370495 h (by omega);rw[show(4503599627370495:Nat)=2^52-1 from rfl,Nat.and_two_pow_sub_one_eq_mod]at this
 exact this
theorem aNo (f:Nat)(h:f<4503599627370496):bits .or .u64 (f:Int) 4503599627370496=((4503599627370496+f:Nat):Int):=by
 have:=u64_or_nat f 4503599627370496 (by omega) (by omega);rw[show f ||| 4503599627370496=4503599627370496+f from by
  rw[Nat.or_comm];have:=Nat.two_pow_add_eq_or_of_lt (i:=52) (b:=f) (by simpa using h) 1;simpa using this.symm]at this
 exact this
def qD:Array Value:=#[Value.int .u8 0,Value.int .u8 0,Value.int .u8 0,Value.int .u8 0,Value.int .u8 0,Value.int .u8 0,Value.int .u8 0,Value.int .u8 0,Value.int .u8 0,Value.int .u8 0,Value.int .u8 0,Value.int .u8 0,Value.int .u8 0,Value.int .u8 0,Value.int .u8 0,Value.int .u8 0,Value.int .u8 0,Value.int .u8 0,Value.int .u8 0,Value.int .u8 0,Value.int .u8 0,Value.int .u8 0,Value.int .u8 0,Value.int .u8 0,Value.int .u8 0,Value.int .u8 0,Value.int .u8 0,Value.int .u8 0,Value.int .u8 0,Value.int .u8 0,Value.int .u8 0,Value.int .u8 0]
theorem aGl:qD=Array.replicate 32 (.int .u8 0):=rfl
theorem aEZ (w:World)(T:TypeId):Holds (fun(b:UInt8)=>Value.int .u8 (b.toNat:Int)) (w.alloc (.cells qD T)) w.heap.size 0 (Array.replicate 32 (0:UInt8)):=fun j hj=>by
 have hj':j<32:=by simpa using hj
 refine⟨?_,World.frozen?_alloc_new _ _ _ _⟩;rw[World.cell?_alloc_new,getElem!_pos _ j hj];rw[aGl];simp[hj']
theorem Holds.below {w w':World}{B g:Nat}{d:Array UInt8}(h:Holds (fun(b:UInt8)=>Value.int .u8 (b.toNat:Int)) w g 0 d)(hb:Below B w w')(hg:g<B):Holds (fun(b:UInt8)=>Value.int .u8 (b.toNat:Int)) w' g 0 d:=fun j hj=>by
 have:=h j hj;rw[hb.cell (by exact hg),hb.frozen (by exact hg)];exact this
theorem Holds.drewN {w:World}{g:Nat}{d:Array UInt8}(h:Holds (fun(b:UInt8)=>Value.int .u8 (b.toNat:Int)) w g 0 d)(n:Nat):Holds (fun(b:UInt8)=>Value.int .u8 (b.toNat:Int)) (w.drewN n) g 0 d :=
 Holds.below (B:=g+1) h ⟨rfl,rfl,rfl,Nat.le_refl _,fun _ _=>rfl⟩ (by omega)
theorem aH1 {α : Type}{P:List α → Prop}(h0:P [])(h1:∀l a,P l→P (l++[a]))(l:List α):P l:=by
 rw[←List.reverse_reverse l];generalize l.reverse=r;induction r with
 | nil=>exact h0
 | cons a r ih=>rw[List.reverse_cons];exact h1 _ _ ih
theorem aIi (l:List UInt8)(h:cU l=0):∀c∈l,c=48:=by
 induction l using aH1 with
 | h0=>intro c hc;cases hc
 | h1 l c ih =>
  rw[pX]at h
  split at h
  ·rename_i h48;intro x hx;rcases List.mem_append.1 hx with h1|h1
   ·exact ih h x h1
   ·rw[List.mem_singleton.1 h1,h48]
  ·omega
theorem aIY (d:Nat)(h:1≤d):∃c∈Lib.decDigits d,c≠48:=by
 induction d using Nat.strongRecOn with
 | _ d ih =>
  rw[Lib.decDigits];split
  ·rename_i h10;refine⟨_,List.mem_singleton.2 rfl,?_⟩;intro e;have:=congrArg UInt8.toNat e;rw[UInt8.toNat_ofNat_of_lt' (by show _<256;omega)]at this
   have h48:(48:UInt8).toNat=48:=rfl;omega
  ·obtain⟨c,hc,hn⟩:=ih (d / 10) (by omega) (by omega);exact⟨c,List.mem_append_left _ hc,hn⟩
theorem zM (d:Nat)(h:1≤d):1≤cU (Lib.decDigits d):=by
 rcases Nat.lt_or_ge 0 (cU (Lib.decDigits d))with h1|h1
 ·exact h1
 ·exfalso;obtain⟨c,hc,hn⟩:=aIY d h;exact hn (aIi _ (by omega) c hc)
theorem wB (g d k:Nat)(p:Int)(N:Nat)(w:World)(hH:Holds (fun(b:UInt8)=>Value.int .u8 (b.toNat:Int)) w g 0 (Array.replicate 32 0))(hd1:1≤d)(hd:d<18446744073709551616)(hN:Lib.nDigits d=N)(p1:-2000≤p)(p2:p≤2000)(hk:cU (Lib.decDigits d)=k+1) :
  Calls Tryz.prog 259 #[.slice (some ⟨g,0,none⟩) 32 32,.int .u64 d,.int .i64 p,.int .i64 N] w
   fun e w'=>e=.returned (.tuple #[.int .i64 (N+p),.int .i64 ((k:Int)+1)])∧IsB w' (some ⟨g,0,none⟩) (Lib.decDigits d)∧aF (· = g) w w':=by
 have:=aCI g d 32 p N w hH (by omega) hd1 hd hN p1 p2;rw[hk]at this
 exact this
theorem Out.first {w w3 w':World}{B:Nat}{S:Nat→Prop}{ad:Option Addr}{c:Nat}{bs:List UInt8}(hk:aF (fun _=>False) w w3)(h:Out w3 w' B S ad c bs):Out w w' B S ad c bs :=
 ⟨h.own,(hk.mono (fun _ _ h=>h.elim)).trans h.kept,fun y hy=>(h.lies y hy).imp id (fun e=>Nat.le_trans hk.size e),h.base⟩
theorem Out.later {w w3:World}{B:Nat}{S:Nat→Prop}{ad:Option Addr}{c:Nat}{bs:List UInt8}(h:Out w w B S ad c bs)(hk:aF (fun i=>w.heap.size≤i) w w3):Out w3 w3 B S ad c bs :=
 ⟨h.own.kept hk (fun y hy e=>by have:=(h.own.at y hy).2;omega),aF.refl _ _,fun y hy=>.inl ((h.lies y hy).resolve_right (by have:=(h.own.at y hy).2;omega)),Nat.le_trans h.base hk.size⟩
theorem aIN (f:Nat)(h:f<4503599627370496):Lib.bitLen (4503599627370496+f)=53:=by
 obtain⟨h1,h2,h3⟩:=Lib.bitLenAux_bounds 64 (4503599627370496+f) (by omega) (by omega);have e1:Lib.bitLen (4503599627370496+f)=Lib.bitLenAux 64 (4503599627370496+f):=rfl;rw[e1];generalize Lib.bitLenAux 64 (4503599627370496+f)=L at *
 rcases Nat.lt_trichotomy L 53 with h4|h4|h4
 ·exfalso;have:2^L≤2^52:=Nat.pow_le_pow_right (by omega) (by omega);omega
 ·exact h4
 ·exfalso;have:2^53≤2^(L-1):=Nat.pow_le_pow_right (by omega) (by omega);omega
theorem aMZ (f:Nat)(w:World)(h:f<4503599627370496):Calls Tryz.prog 191 #[.int .u64 ((4503599627370496+f:Nat):Int)] w fun e w'=>e=.returned (.int .i64 53)∧w=w':=by
 refine(Tryz.bits_Len64 _ _ (by omega) (by omega)).mono ?_;rintro e w' ⟨rfl,rfl⟩;have:Lib.bitLen ((4503599627370496+f:Nat):Int).toNat=53:=by rw[Int.toNat_natCast];exact aIN f h
 rw[this];exact⟨rfl,rfl⟩
theorem aEp (w:World)(B:Nat)(ad:Option Addr)(c:Nat)(S:Nat→Prop)(b E f d:Nat)(p:Int)(hO:Out w w B S ad c [])(T:aB w)
  (hb:b<9223372036854775808) (hE:b / 4503599627370496=E) (hf:b%4503599627370496=f) (E1:1≤E) (E2:E≤2046) (f1:f<4503599627370496)
  (hS:∀k,S k→k<w.heap.size)
  (SF:∀w',aB w'→Calls Tryz.prog 265 #[.int .u64 ((4503599627370496+f)*2048:Nat),.int .i64 ((E:Int)-1086)] w' fun e' w2=>e'=.returned (.tuple #[.int .u64 d,.int .i64 p])∧Below w'.heap.size w' w2)
  (hd1:1≤d) (hd:d<18446744073709551616) (p1:-900≤p) (p2:p≤900) :
  Calls Tryz.prog 228 #[.slice ad 0 c,.float .f64 b,.int .u8 101,.int .i64 (-1)] w (fT w B S (lQ ((Lib.decDigits d).take (cU (Lib.decDigits d))) ((Lib.nDigits d:Int)+p-1))):=by
 have a1:=aAZ E (by omega);have a2:=aJ5 b (by omega);rw[hf]at a2
 have a3:=aNo f f1;have g1:((E:Int)==2047)=false:=beq_eq_false_iff_ne.2 (by omega);have g2:((E:Int)==0)=false:=beq_eq_false_iff_ne.2 (by omega);have g3:(b:Int) / 4503599627370496=E:=by omega
 have g4:((b:Int) / 9223372036854775808 !=0)=false:=bne_eq_false_iff_eq.2 (by omega);have L53:=fun w=>aMZ f w f1
 obtain⟨M,hM⟩:∃M,M=4503599627370496+f:=⟨_,rfl⟩
 rw[←hM]at a3 L53 SF
 have g5:((M:Int)==0)=false:=beq_eq_false_iff_ne.2 (by omega);have m2:M<9007199254740992:=by omega
 have m3:((M*2048:Nat):Int)=(M:Int)*2048:=by omega
 have m4:(E:Int)-1086=(E:Int)+-1023-11-52:=by omega
 rw[m3,m4]at SF
 have HL:=hid L53;have d85:=aGM;have HO:=hid hO;have HT:=hid T;have HSF:=hid SF;have HSS:=hid hS;clear hO T SF hE hf hS hM L53 m3 m4 f1 E1;go_enter Tryz.func228,Tryz.ntmps228
 go_wp2_with fail
 go_quiet (fail)
 go_wp2_with (go_at_call 191;((with_reducible refine(HL.out _).mono ?_);rintro e w' ⟨rfl,rfl⟩))
 obtain⟨g,hg⟩:∃g,g=w.heap.size:=⟨_,rfl⟩
 obtain⟨W,hW⟩:∃W,W=(w.drewN nq).alloc (.cells qD 251):=⟨_,rfl⟩
 have bW:Below w.heap.size w W:=by rw[hW];exact((Below.refl w.heap.size w).trans ⟨rfl,rfl,rfl,Nat.le_refl _,fun _ _=>rfl⟩:Below w.heap.size w (w.drewN nq)).alloc qZ _
 have sW:W.heap.size=g+1:=by rw[hW,hg];simp
 have hH:Holds (fun(b:UInt8)=>Value.int .u8 (b.toNat:Int)) W g 0 (Array.replicate 32 (0:UInt8)):=by rw[hW,hg];exact aEZ (w.drewN nq) 251
 have TW:=HT.out.below bW qZ;have hW2:=hW;unfold qD at hW2;rw[←hW2,←hg];clear hW hW2;refine(HSF.out W TW).mono ?_;rintro e1 w2 ⟨rfl,B2⟩;have H2:Holds (fun(b:UInt8)=>Value.int .u8 (b.toNat:Int)) w2 g 0 (Array.replicate 32 (0:UInt8)):=Holds.below hH B2 (by omega);have b2:Below w.heap.size w w2:=bW.trans (B2.mono (by omega));have s2:g<w2.heap.size:=by have:=B2.size;omega
 have T2:=HT.out.below b2 qZ;have n20:=iM d hd;have n1:=Lib.nDigits_pos d;obtain⟨N,hN⟩:∃N,Lib.nDigits d=N:=⟨_,rfl⟩
 rw[hN]at n20 n1
 have ND:=fun(w:World) (h:Lib.TabIs Tryz.prog w "internal/strconv.uint64pow10" .u64 Lib.pow10Tab)=>Tryz.internal_strconv_numDigits d hd1 hd w h
 rw[hN]at ND
 have HGG:=hid hg;clear hg;have ht1:=zM d hd1;have ht2:cU (Lib.decDigits d)≤N:=by have:=kR (Lib.decDigits d);rw[Lib.decDigits_length,hN]at this;exact this
 obtain⟨k,hk⟩:∃k,cU (Lib.decDigits d)=k+1:=⟨cU (Lib.decDigits d)-1,by omega⟩
 have k20:k≤19:=by omega
 have hmx:max (k:Int) 0=k:=by omega
 have HKK:=hid hk;clear ht1 ht2 hk;have HH2:=hid H2;have HB2:=hid b2;have HT2:=hid T2;have HN:=hid hN;have HND:=hid ND;clear hH B2 H2 b2 T2 TW bW sW hN ND;go_wp2_with fail
 obtain⟨C,hC⟩:∃C:World→Prop,∀u,C u:=⟨fun _=>True,fun _=>trivial⟩
 haveI:Nonempty (WIn C):=⟨⟨w2,hC _⟩⟩
 refine eK 10 [([0,1,2,3],4),([],5)] [6,7,8,9] C (by kernel_rfl) (by kernel_rfl) (hC _) ?_;refine aZ (fun K' hK'=>?_);simp only[pick,pickZ,pickS,pickG];repeat (go_big_quiet_step (fail))
 refine wpQuiet_nil (hK' _ (fun Q1 hQ1=>?_));clear hK' K';simp only[pick,pickZ,pickS,pickG];go_wp2_with fail
 refine(HND.out _ (HT2.out.drewN 1).u10).mono ?_;rintro e w3 ⟨rfl,hw3⟩;subst hw3;go_wp2_with fail
 refine hQ1 _ _ (hC _) (aZ (fun K' hK'=>wpQuiet_nil (hK' _ (fun Q2 hQ2=>?_))));clear hK' K' hQ1 Q1;simp only[pick,pickZ,pickS,pickG];go_wp2_with fail
 refine(wB g d k p N (w2.drewN 1) (Holds.drewN HH2.out 1) hd1 hd HN.out (by omega) (by omega) HKK.out).mono ?_;rintro e w3 ⟨rfl,S3,K3⟩;have HS3:=hid S3;have HK3:=hid K3;clear S3 K3;go_wp2_with fail
 refine hQ2 _ _ (hC _) (fE (fun K' hK'=>?_));clear hQ2 Q2;simp only[pick,pickZ,pickS,pickG];repeat (go_big_quiet_step (fail))
 refine wpQuiet_nil (hK' _ (fun Q3 hQ3=>?_));clear hK' K';simp only[List.drop_succ_cons,List.drop_zero];go_wp2_with fail
 have K03:aF (fun i=>w.heap.size≤i) w w3:=(aF.of_below HB2.out).trans ((((aF.refl (· = g) w2).drewN 1).trans HK3.out).mono (fun i _ e=>by have:=HGG.out;omega));have K03f:aF (fun _=>False) w w3:=K03.mono (fun i hi e=>by omega);have O3:=HO.out.later K03;have S3':IsB w3 (some ⟨g,0,none⟩) ((Lib.decDigits d).take (k+1)):=HS3.out.take (k+1);have hl3:((Lib.decDigits d).take (k+1)).length=k+1:=by
  have:=HKK.out;have:=kR (Lib.decDigits d);rw[List.length_take];omega
 have hz3:g<w3.heap.size:=by have:=HK3.out.size;simp at this;omega
 refine(aKa w3 B g k ad c S _ ((N:Int)+p) O3 S3' (fun e=>by have:=HSS.out g e;have:=HGG.out;omega) hz3 hl3 (by omega) (by omega) (by omega)).mono ?_;rintro e w4 ⟨ad4,c4,rfl,O4⟩;go_wp2
 go_ret;refine⟨ad4,c4,?_,?_⟩
 ·rw[HKK.out,HN.out];rfl
 ·rw[HKK.out,HN.out];exact Out.first K03f O4
open Go.RowKit
def jD (b:Nat)(txt:List UInt8):Prop :=
 ∀(w:World) (B:Nat) (ad:Option Addr) (c:Nat) (S:Nat→Prop),Out w w B S ad c []→aB w→(∀k,S k→k<w.heap.size)→Calls Tryz.prog 228 #[.slice ad 0 c,.float .f64 b,.int .u8 101,.int .i64 (-1)] w (fT w B S txt)
theorem aMm:∃Z:Array Value,Z.size=24∧∀w:World,(Instr.makeSlice 35 (.int .i64 0) (.int .i64 24)).run Tryz.prog w=.ok (.slice (some ⟨w.heap.size,0,none⟩) 0 24) (w.alloc (.cells Z 5)):=by
 obtain⟨i0,hi,hz0,hz1,hz2⟩:=info_parts aDs;refine⟨madeCells (Value.int .u8 0).cells (24*i0.size),?_,fun w=>?_⟩
 ·rw[hz1,aEa 24];simp
 ·exact run_make (P:=Tryz.prog) w 35 5 i0 (.int .u8 0) Tryz.underlying35 hi hz0 .i64 .i64 0 24 (by omega) (by omega) (by rw[hz2];omega) (by omega)
theorem aI9 (b:Nat)(txt:List UInt8)(w:World)(T:aB w)(hF:jD b txt) :
  Calls Tryz.prog 200 #[.float .f64 b,.int .u8 101,.int .i64 (-1),.int .i64 64] w fun e w'=>e=.returned (.string ⟨txt.toArray⟩)∧Below w.heap.size w w':=by
 obtain⟨Z,hZ,hmk⟩:=aMm;obtain⟨g,hg⟩:∃g,g=w.heap.size:=⟨_,rfl⟩
 obtain⟨W,hW⟩:∃W,W=w.alloc (.cells Z 5):=⟨_,rfl⟩
 have bW:Below w.heap.size w W:=by rw[hW];exact(Below.refl _ _).alloc qZ _
 have sW:W.heap.size=g+1:=by rw[hW,hg];simp
 have O1:Out W W g (· = g) (some ⟨g,0,none⟩) 24 []:=by
  refine⟨?_,aF.refl _ _,fun y hy=>.inl (by cases hy;rfl),by omega⟩;rw[hW,hg];exact World.ownsRow_made w Z 24 qZ (by unfold maxLen;omega) (by rw[hZ])
 have TW:=T.below bW qZ;have FT:=hF W g (some ⟨g,0,none⟩) 24 (· = g) O1 TW (fun k hk=>by omega);have ks:=fun(w:World) (x:Option Addr) (bs:List UInt8) (n c:Nat)=>aHR (P:=Tryz.prog) w 35 5 9 Tryz.underlying35 Tryz.underlying5 Tryz.underlying9 x bs n c
 have HKS:=hid ks;have HFT:=hid FT;have HW:=hid hW;have HG:=hid hg;clear ks FT hF T TW O1 hW hg hZ sW;have mx:max (3:Int) 24=24:=by decide
 go_enter Tryz.func200,Tryz.ntmps200
 go_wp2_with fail
 rw[←HW.out,←HG.out];refine HFT.out.mono ?_;rintro e w2 ⟨ad2,c2,rfl,O2⟩;have k2:=HKS.out w2 ad2 txt txt.length c2 rfl O2.own.isB;have HO:=hid O2;clear O2;go_wp2
 go_ret;refine⟨rfl,?_⟩;have hg':=HG.out;exact bW.trans (HO.out.kept.below (by have:=bW.size;omega) (fun k _ e=>by omega))
theorem aI8 (b:Nat)(txt:List UInt8)(w:World)(T:aB w)(hF:jD b txt) :
  Calls Tryz.prog 158 #[.float .f64 b,.int .u8 101,.int .i64 (-1),.int .i64 64] w fun e w'=>e=.returned (.string ⟨txt.toArray⟩)∧Below w.heap.size w w':=by
 have HF:=hid hF;have HT:=hid T;clear hF T;go_enter Tryz.func158,Tryz.ntmps158
 go_wp2_with fail
 refine(aI9 b txt _ HT.out HF.out).mono ?_;rintro e w2 ⟨rfl,B2⟩;have HB:=hid B2;clear B2;go_wp2
 go_ret;exact⟨rfl,HB.out⟩
structure kU (txt D:List UInt8) (x:Int) (hd tl:List UInt8):Prop where
 cut:Lib.cut txt [101]=(hd,tl,true)
 num:Lib.atoi tl=some x
 rep:Lib.replace hd [46] [] 1=D
 len:txt.length≤1000
 tlen:tl.length≤18
 hlen:hd.length≤1000
 cnt:Lib.countB ⟨hd.toArray⟩ ⟨#[46]⟩≤1000
 lo:-1000≤x
 hi:x≤1000
theorem jN (l:List UInt8):(⟨l.toArray⟩:ByteArray).size=l.length:=rfl
theorem aL9 (txt hd tl:List UInt8)(w:World)(T:aB w)(h:Lib.cut txt [101]=(hd,tl,true))(hl:txt.length≤1000) :
  Calls Tryz.prog 71 #[.string ⟨txt.toArray⟩,.string { data:=#[101] }] w fun e w'=>e=.returned (.tuple #[.string ⟨hd.toArray⟩,.string ⟨tl.toArray⟩,.bool true])∧∃n,w'=w.drewN n:=by
 obtain⟨m,hm⟩:=T.most;have:=Tryz.strings_Cut ⟨txt.toArray⟩ { data:=#[101] } m w (by rw[jN];omega) hm;have e:Lib.cut (⟨txt.toArray⟩:ByteArray).data.toList ({ data:=#[101] }:ByteArray).data.toList=(hd,tl,true):=h;rw[e]at this
 exact this
theorem aER (tl:List UInt8)(x:Int)(w:World)(h:Lib.atoi tl=some x)(hl:tl.length≤18) :
  Calls Tryz.prog 113 #[.string ⟨tl.toArray⟩] w fun e w'=>e=.returned (.tuple #[.int .i64 x,.nilIface])∧Below w.heap.size w w':=by
 refine(Tryz.strconv_Atoi ⟨tl.toArray⟩ x (by rw[bF];exact hl) h w).mono ?_;rintro e w' ⟨rfl,t,rfl⟩;exact⟨rfl,Lib.bytesWorld_below w 5 t⟩
theorem aFM (hd D:List UInt8)(w:World)(T:aB w)(h:Lib.replace hd [46] [] 1=D)(hl:hd.length≤1000)(_hc:Lib.countB ⟨hd.toArray⟩ ⟨#[46]⟩≤1000) :
  Calls Tryz.prog 133 #[.string ⟨hd.toArray⟩,.string { data:=#[46] },.string { data:=#[] },.int .i64 1] w fun e w'=>e=.returned (.string ⟨D.toArray⟩)∧Below w.heap.size w w':=by
 obtain⟨m,hm⟩:=T.most;have:=Tryz.strings_Replace ⟨hd.toArray⟩ { data:=#[46] } { data:=#[] } 1 m w (by rw[jN];omega) hm (by show 1≤1;omega) (by
  have e:({ data:=#[] }:ByteArray).size=0:=rfl;rw[jN,e];omega)
 have e:Lib.replace (⟨hd.toArray⟩:ByteArray).data.toList ({ data:=#[46] }:ByteArray).data.toList ({ data:=#[] }:ByteArray).data.toList 1=D:=h;rw[e]at this
 exact this
theorem kL (b:Nat)(txt D hd tl:List UInt8)(x:Int)(w:World)(T:aB w)(hF:jD b txt)(hP:kU txt D x hd tl) :
  Calls Tryz.prog 114 #[.float .f64 b] w fun e w'=>e=.returned (.tuple #[.string ⟨D.toArray⟩,.int .i64 (x+1)])∧Below w.heap.size w w':=by
 have HF:=hid hF;have HT:=hid T;have HP:=hid hP;have x1:=hP.lo;have x2:=hP.hi;clear hF T hP;go_enter Tryz.func114,Tryz.ntmps114
 go_wp2_with fail
 refine(aI8 b txt _ HT.out HF.out).mono ?_;rintro e w2 ⟨rfl,B2⟩;have HB2:=hid B2;have HT2:=hid (HT.out.below B2 qZ);clear B2;go_wp2_with fail
 refine(aL9 txt hd tl _ HT2.out HP.out.cut HP.out.len).mono ?_;rintro e w3 ⟨rfl,n,rfl⟩;go_wp2_with fail
 refine(aER tl x _ HP.out.num HP.out.tlen).mono ?_;rintro e w3 ⟨rfl,B3⟩;have B03:Below w.heap.size w w3:=(HB2.out.trans ⟨rfl,rfl,rfl,Nat.le_refl _,fun _ _=>rfl⟩:Below w.heap.size w (w2.drewN n)).trans (B3.mono HB2.out.size);have HB3:=hid B03;have HT3:=hid (HT.out.below B03 qZ);clear B3 B03;go_wp2_with fail
 refine(aFM hd D _ HT3.out HP.out.rep HP.out.hlen HP.out.cnt).mono ?_;rintro e w4 ⟨rfl,B4⟩;have HB4:=hid (HB3.out.trans (B4.mono HB3.out.size));clear B4;go_wp2
 go_ret2;exact⟨rfl,HB4.out⟩
