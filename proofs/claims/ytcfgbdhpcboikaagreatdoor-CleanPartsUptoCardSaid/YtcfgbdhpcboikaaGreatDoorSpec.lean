/-
  internal/strconv.special at what begins as a numeral; math.Abs, math.IsInf.
  atof64 at a numeral whose value comes out exactly; ParseFloat; Parse.
  The doors between a float and its bits; math.Abs, math.IsInf.
  internal/strconv.uscale and what it stands on.
  The small functions of the unrounded scaling; prescale.
-/
import Derived.Test.YtcfgbdhpcboikaaGreatDoorLookX
import Derived.Handy
import Derived.Laws.Externs
import Derived.Deep.QuietTactic
import Derived.BigQuiet
import Derived.Laws.BitsAllLaws
namespace Go.Proofs.YtcfgbdhpcboikaaGreatDoor
set_option maxHeartbeats 2000000
set_option maxRecDepth 100000
open Go.RowKit
theorem prefix_no (s p:ByteArray)(w:World)(h:0<s.size)(hs:s.size≤40)(hp:0<p.size)(hp2:p.size≤40)(h1:s[0].toNat≤57)(hq:97≤p[0].toNat) :
  Calls Tryz.prog 269 #[.string s,.string p] w fun e w'=>e=.returned (.int .i64 0)∧w=w':=by
 have h2:¬ 65≤s[0].toNat:=by omega
 have h3:((s[0].toNat:Int) !=(p[0].toNat:Int))=true:=by simp;omega
 by_cases hle:p.size≤s.size
 all_goals
  go_enter Tryz.func269,Tryz.ntmps269
  go_wp2
  refine wp_loop_rounds 1 ?_
  rw[rounds_succ]
  go_wp2
  go_ret
  exact⟨rfl,rfl⟩
theorem special_plain (s:ByteArray)(w:World)(h:0<s.size)(hs:s.size≤40)(h1:s[0].toNat≤57)(h2:((s[0].toNat:Int)==43)=false)(h3:((s[0].toNat:Int)==45)=false) :
  Calls Tryz.prog 233 #[.string s] w fun e w'=>e=.returned (.tuple #[.float .f64 0,.int .i64 0,.bool false])∧w=w':=by
 have f1:((s[0].toNat:Int)==105)=false:=by simp;omega
 have f2:((s[0].toNat:Int)==73)=false:=by simp;omega
 have f3:((s[0].toNat:Int)==110)=false:=by simp;omega
 have f4:((s[0].toNat:Int)==78)=false:=by simp;omega
 have f0:((s.size:Int)==0)=false:=beq_eq_false_iff_ne.2 (by omega)
 go_enter Tryz.func233,Tryz.ntmps233
 go_wp2
 go_ret3
 exact⟨rfl,rfl⟩
theorem special_minus (s:ByteArray)(w:World)(h:1<s.size)(hs:s.size≤40)(h2:((s[0].toNat:Int)==43)=false)(h3:((s[0].toNat:Int)==45)=true)(h1:s[1].toNat≤57) :
  Calls Tryz.prog 233 #[.string s] w fun e w'=>e=.returned (.tuple #[.float .f64 0,.int .i64 0,.bool false])∧w=w':=by
 have f0:((s.size:Int)==0)=false:=beq_eq_false_iff_ne.2 (by omega)
 obtain⟨s2,e2,z2,c2'⟩:=cut_from s 1 (by omega)
 have c2:∀ w,(Instr.slice 9 (.string s) (some (.int .i64 1)) none none).run Tryz.prog w=.ok (.string s2) w:=c2'
 clear c2'
 have k2:0<s2.size:=by omega
 have k3:s2.size≤40:=by omega
 have g1:s2[0].toNat≤57:=by
  have:s2[0]=s[1]:=by
   have a1:=List.getElem_of_eq e2 (i:=0) (by rw[← size_list];exact k2)
   rw[List.getElem_drop] at a1
   exact a1
  rw[this];exact h1
 have PR:=fun w=>prefix_no s2 ({ data:=#[105,110,102,105,110,105,116,121] }:ByteArray) w k2 k3 (Nat.le_of_ble_eq_true rfl) (Nat.le_of_ble_eq_true rfl) g1 (Nat.le_of_ble_eq_true rfl)
 have HPR:=Lib.hid PR
 clear PR e2 z2
 go_enter Tryz.func233,Tryz.ntmps233
 go_wp2_with (go_at_call 269;refine(HPR.out _).mono ?_;rintro e w' ⟨rfl,rfl⟩)
 go_ret3
 exact⟨rfl,rfl⟩
open Go.RowKit
theorem bool2_u64_true (w:World):Calls Tryz.prog 242 #[.bool true] w fun e w'=>e=.returned (.int .u64 1)∧w=w':=by
 go_enter Tryz.func242,Tryz.ntmps242
 go_wp2
 go_ret
 exact⟨rfl,rfl⟩
theorem bool2_u64_false (w:World):Calls Tryz.prog 242 #[.bool false] w fun e w'=>e=.returned (.int .u64 0)∧w=w':=by
 go_enter Tryz.func242,Tryz.ntmps242
 go_wp2
 go_ret
 exact⟨rfl,rfl⟩
theorem bool2_int_true (w:World):Calls Tryz.prog 266 #[.bool true] w fun e w'=>e=.returned (.int .i64 1)∧w=w':=by
 go_enter Tryz.func266,Tryz.ntmps266
 go_wp2
 go_ret
 exact⟨rfl,rfl⟩
theorem bool2_int_false (w:World):Calls Tryz.prog 266 #[.bool false] w fun e w'=>e=.returned (.int .i64 0)∧w=w':=by
 go_enter Tryz.func266,Tryz.ntmps266
 go_wp2
 go_ret
 exact⟨rfl,rfl⟩
theorem atof_exact (s:ByteArray)(m:Nat)(x:Int)(neg:Bool)(r:Nat)(w:World)(T:Tabs w)(_hs:s.size≤40)(hm:m≠0)(x1:-345≤x)(x2:x≤310)
  (SP:∀ w,Calls Tryz.prog 233 #[.string s] w fun e w'=>e=.returned (.tuple #[.float .f64 0,.int .i64 0,.bool false])∧w=w')
  (RD:∀ w,Calls Tryz.prog 234 #[.string s] w fun e w'=>e=.returned (.tuple #[.int .u64 m,.int .i64 x,.bool neg,.bool false,.bool false,.int .i64 s.size,.bool true])∧w=w')
  (EX:∀ w,Tabs w→Calls Tryz.prog 244 #[.int .u64 m,.int .i64 x,.bool neg] w fun e w'=>e=.returned (.tuple #[.float .f64 r,.bool true])∧w=w') :
  Calls Tryz.prog 205 #[.string s] w fun e w'=>e=.returned (.tuple #[.float .f64 r,.int .i64 s.size,.nilIface])∧w=w':=by
 have h3:=T.opt
 have hm0:((m:Int)==0)=false:=beq_eq_false_iff_ne.2 (by omega)
 have HSP:=Lib.hid SP
 have HRD:=Lib.hid RD
 have HEX:=Lib.hid EX
 have HT:=Lib.hid T
 clear SP RD EX T
 cases neg
 all_goals
  go_enter Tryz.func205,Tryz.ntmps205
  go_wp2_with (first
   | (go_at_call 233;refine(HSP.out _).mono ?_;rintro e w' ⟨rfl,rfl⟩)
   | (go_at_call 234;refine(HRD.out _).mono ?_;rintro e w' ⟨rfl,rfl⟩)
   | (go_at_call 242;((with_reducible refine(bool2_u64_true _).mono ?_);rintro e w' ⟨rfl,rfl⟩))
   | (go_at_call 242;((with_reducible refine(bool2_u64_false _).mono ?_);rintro e w' ⟨rfl,rfl⟩))
   | (go_at_call 244;refine(HEX.out _ HT.out).mono ?_;rintro e w' ⟨rfl,rfl⟩))
  go_ret3
  exact⟨rfl,rfl⟩
open Go.RowKit
theorem door11 (n:Int)(w:World):(callFunc 169 #[.int .u64 n]).run Tryz.prog w=.ok (.value (.float .f64 n.toNat)) w:=by
 rw[run_callFunc_extern Tryz.func169 (by kernel_rfl) (by kernel_rfl) (by kernel_rfl) (e:=Extern.MathFloatBits.float64frombits) (by kernel_rfl)]
 rfl
theorem door115 (n:Int)(w:World):(callFunc 243 #[.int .u64 n]).run Tryz.prog w=.ok (.value (.float .f64 n.toNat)) w:=by
 rw[run_callFunc_extern Tryz.func243 (by kernel_rfl) (by kernel_rfl) (by kernel_rfl) (e:=Extern.MathFloatBits.float64frombits) (by kernel_rfl)]
 rfl
theorem door23 (r:Nat)(w:World):(callFunc 170 #[.float .f64 r]).run Tryz.prog w=.ok (.value (.int .u64 r)) w:=by
 rw[run_callFunc_extern Tryz.func170 (by kernel_rfl) (by kernel_rfl) (by kernel_rfl) (e:=Extern.MathFloatBits.float64bits) (by kernel_rfl)]
 rfl
theorem door85 (r:Nat)(w:World):(callFunc 254 #[.float .f64 r]).run Tryz.prog w=.ok (.value (.int .u64 r)) w:=by
 rw[run_callFunc_extern Tryz.func254 (by kernel_rfl) (by kernel_rfl) (by kernel_rfl) (e:=Extern.MathFloatBits.float64bits) (by kernel_rfl)]
 rfl
def absF (r:Nat):Nat:=(bits .andNot .u64 r 9223372036854775808).toNat
theorem abs_any (r:Nat)(w:World):Calls Tryz.prog 121 #[.float .f64 r] w fun e w'=>e=.returned (.float .f64 (absF r))∧w=w':=by
 have d1:=door11
 have d2:=door23
 go_enter Tryz.func121,Tryz.ntmps121
 go_wp2
 go_ret
 exact⟨rfl,rfl⟩
def infF (r:Nat):Bool:=FloatKind.f64.format.order (absF r) 9218868437227405311==some .gt
theorem isInf_any (r:Nat)(w:World):Calls Tryz.prog 67 #[.float .f64 r,.int .i64 0] w fun e w'=>e=.returned (.bool (infF r))∧w=w':=by
 go_enter Tryz.func67,Tryz.ntmps67
 go_wp2_with (go_at_call 121;refine(abs_any _ _).mono ?_;rintro e w' ⟨rfl,rfl⟩)
 go_ret
 exact⟨rfl,rfl⟩
theorem isInf_at (r:Nat)(b:Bool)(w:World)(h:infF r=b):Calls Tryz.prog 67 #[.float .f64 r,.int .i64 0] w fun e w'=>e=.returned (.bool b)∧w=w':=by
 subst h;exact isInf_any r w
theorem prefix_ok (s:ByteArray)(r:Nat)(w:World)
  (A:∀ w',w=w'→Calls Tryz.prog 205 #[.string s] w' fun e w2=>e=.returned (.tuple #[.float .f64 r,.int .i64 s.size,.nilIface])∧w'=w2) :
  Calls Tryz.prog 164 #[.string s,.int .i64 64] w fun e w'=>e=.returned (.tuple #[.float .f64 r,.int .i64 s.size,.nilIface])∧w=w':=by
 have HA:=Lib.hid A
 clear A
 go_enter Tryz.func164,Tryz.ntmps164
 go_wp2_with (go_at_call 205;refine(HA.out _ rfl).mono ?_;rintro e w' ⟨rfl,rfl⟩)
 go_ret3
 exact⟨rfl,rfl⟩
theorem pf46_ok (s:ByteArray)(r:Nat)(w:World)
  (A:∀ w',w=w'→Calls Tryz.prog 205 #[.string s] w' fun e w2=>e=.returned (.tuple #[.float .f64 r,.int .i64 s.size,.nilIface])∧w'=w2) :
  Calls Tryz.prog 119 #[.string s,.int .i64 64] w fun e w'=>e=.returned (.tuple #[.float .f64 r,.nilIface])∧w=w':=by
 have HA:=Lib.hid A
 clear A
 go_enter Tryz.func119,Tryz.ntmps119
 go_wp2_with (go_at_call 164;refine(prefix_ok s r _ HA.out).mono ?_;rintro e w' ⟨rfl,rfl⟩)
 go_ret2
 exact⟨rfl,rfl⟩
theorem pf31_ok (s:ByteArray)(r:Nat)(w:World)
  (A:∀ w',w=w'→Calls Tryz.prog 205 #[.string s] w' fun e w2=>e=.returned (.tuple #[.float .f64 r,.int .i64 s.size,.nilIface])∧w'=w2) :
  Calls Tryz.prog 66 #[.string s,.int .i64 64] w fun e w'=>e=.returned (.tuple #[.float .f64 r,.nilIface])∧w=w':=by
 have HA:=Lib.hid A
 clear A
 go_enter Tryz.func66,Tryz.ntmps66
 go_wp2_with (go_at_call 119;refine(pf46_ok s r _ HA.out).mono ?_;rintro e w' ⟨rfl,rfl⟩)
 go_ret2
 exact⟨rfl,rfl⟩
theorem parse_ok (s:ByteArray)(r:Nat)(w:World)(hs:s.size≤maxLen)(hn:numB s.data.toList=true)(hi:infF r=false)
  (A:∀ w',w=w'→Calls Tryz.prog 205 #[.string s] w' fun e w2=>e=.returned (.tuple #[.float .f64 r,.int .i64 s.size,.nilIface])∧w'=w2) :
  Calls Tryz.prog 21 #[.string s] w fun e w'=>e=.returned (.tuple #[.float .f64 r,.bool true])∧w=w':=by
 have NB:=fun w=>numeral_any s w hs
 rw[hn] at NB
 have HA:=Lib.hid A
 have HNB:=Lib.hid NB
 have HI:=Lib.hid hi
 clear A NB hn hi hs
 go_enter Tryz.func21,Tryz.ntmps21
 go_wp2_with (first
  | (go_at_call 65;refine(HNB.out _).mono ?_;rintro e w' ⟨rfl,rfl⟩)
  | (go_at_call 66;refine(pf31_ok s r _ HA.out).mono ?_;rintro e w' ⟨rfl,rfl⟩)
  | (go_at_call 67;refine(isInf_at r false _ HI.out).mono ?_;rintro e w' ⟨rfl,rfl⟩))
 go_ret2
 exact⟨rfl,rfl⟩
open Go.RowKit
theorem mul64_at (x y hi mid:Nat)(w:World)(hx:x<18446744073709551616)(hy:y<18446744073709551616)(h1:x*y / 18446744073709551616=hi)(h2:x*y%18446744073709551616=mid) :
  Calls Tryz.prog 202 #[.int .u64 x,.int .u64 y] w fun e w'=>e=.returned (.tuple #[.int .u64 hi,.int .u64 mid])∧w=w':=by
 refine(Tryz.bits_Mul64 x y hx hy w).mono ?_
 rintro e w' ⟨rfl,rfl⟩
 rw[h1,h2]
 exact⟨rfl,rfl⟩
theorem and63 (s:Nat)(h:s<64):bits .and .i64 (s:Int) 63=s:=by
 have all:∀ n:Fin 64,bits .and .i64 ((n.val:Nat):Int) 63=((n.val:Nat):Int):=by decide +kernel
 exact all ⟨s,h⟩
theorem uscale_far (x h l s hi mid:Nat)(w:World)(b o:Nat)(c0:w.cell? ⟨b,o,none⟩=some (.int .u64 h))(_c1:w.cell? ⟨b,o+1,none⟩=some (.int .u64 l))(c2:w.cell? ⟨b,o+2,none⟩=some (.int .i64 s))
  (hx:x<18446744073709551616) (hh:h<18446744073709551616) (hs:s<64) (h1:x*h / 18446744073709551616=hi) (h2:x*h%18446744073709551616=mid)
  (hc:(IntKind.u64.wrap ((hi:Int) / 2^s*2^s) !=(hi:Int))=true) :
  Calls Tryz.prog 274 #[.int .u64 x,.pointer (some ⟨b,o,none⟩)] w fun e w'=>e=.returned (.int .u64 (bits .or .u64 ((hi:Int) / 2^s) 1))∧w=w':=by
 have M1:=fun w=>mul64_at x h hi mid w hx hh h1 h2
 have a63:=and63 s hs
 have HM1:=Lib.hid M1
 clear M1 h1 h2 hx hh
 go_enter Tryz.func274,Tryz.ntmps274
 go_wp2_with (go_at_call 202;((with_reducible refine(HM1.out _).mono ?_);rintro e w' ⟨rfl,rfl⟩))
 go_ret
 exact⟨rfl,rfl⟩
theorem uscale_near (x h l s hi mid mid2 lo2:Nat)(w:World)(b o:Nat)(c0:w.cell? ⟨b,o,none⟩=some (.int .u64 h))(c1:w.cell? ⟨b,o+1,none⟩=some (.int .u64 l))(c2:w.cell? ⟨b,o+2,none⟩=some (.int .i64 s))
  (hx:x<18446744073709551616) (hh:h<18446744073709551616) (hl:l<18446744073709551616) (hs:s<64) (h1:x*h / 18446744073709551616=hi) (h2:x*h%18446744073709551616=mid) (h3:x*l / 18446744073709551616=mid2) (h4:x*l%18446744073709551616=lo2)
  (hc:(IntKind.u64.wrap ((hi:Int) / 2^s*2^s) !=(hi:Int))=false) (q:Bool) (hq:decide (mid<mid2)=q) (z:Int) (hz:IntKind.u64.wrap (if q then (hi:Int)-1 else (hi:Int))=z) (r:Bool) (hr:decide (1<IntKind.u64.wrap ((mid:Int)-mid2))=r) :
  Calls Tryz.prog 274 #[.int .u64 x,.pointer (some ⟨b,o,none⟩)] w fun e w'=>e=.returned (.int .u64 (bits .or .u64 (z / 2^s) (if r then 1 else 0)))∧∃ n,w'=w.drewN n:=by
 have M1:=fun w=>mul64_at x h hi mid w hx hh h1 h2
 have M2:=fun w=>mul64_at x l mid2 lo2 w hx hl h3 h4
 have a63:=and63 s hs
 have HM1:=Lib.hid M1
 have HM2:=Lib.hid M2
 clear M1 M2 h1 h2 h3 h4 hx hh hl
 cases q
 all_goals
  simp only[if_true,if_false,Bool.false_eq_true] at hz
  go_enter Tryz.func274,Tryz.ntmps274
  go_wp2_with (first
   | (go_at_call 202;((with_reducible refine(HM1.out _).mono ?_);rintro e w' ⟨rfl,rfl⟩))
   | (go_at_call 202;((with_reducible refine(HM2.out _).mono ?_);rintro e w' ⟨rfl,rfl⟩))
   | (go_at_call 242;((with_reducible refine(bool2_u64_true _).mono ?_);rintro e w' ⟨rfl,rfl⟩))
   | (go_at_call 242;((with_reducible refine(bool2_u64_false _).mono ?_);rintro e w' ⟨rfl,rfl⟩)))
  cases r
  all_goals
   go_quiet ((first|(go_at_call 242;exact Calls.quiet_of_same ((bool2_u64_true _).mono fun _ _ h=>⟨h.1,h.2.symm⟩))|(go_at_call 242;exact Calls.quiet_of_same ((bool2_u64_false _).mono fun _ _ h=>⟨h.1,h.2.symm⟩))))
   go_wp2
   go_ret
   exact⟨rfl,_,rfl⟩
def uscN (x h l s:Nat):Nat :=
 let hi:=x*h / 18446744073709551616
 let mid:=x*h%18446744073709551616
 let mid2:=x*l / 18446744073709551616
 if hi / 2^s*2^s≠hi then hi / 2^s ||| 1
 else (if mid<mid2 then (hi+18446744073709551615)%18446744073709551616 else hi) / 2^s ||| (if 1<(mid+18446744073709551616-mid2)%18446744073709551616 then 1 else 0)
theorem wrap_u64 (z:Int):IntKind.u64.wrap z=z%18446744073709551616:=by
 have h1:IntKind.u64.signed=false:=rfl
 have h2:IntKind.u64.bits=64:=rfl
 unfold IntKind.wrap
 simp only[h1,h2,Bool.false_and,Bool.false_eq_true,if_false]
 rfl
theorem wrap_nat (n:Nat)(h:n<18446744073709551616):IntKind.u64.wrap (n:Int)=n:=by rw[wrap_u64];omega
theorem or_nat (a b:Nat)(ha:a<18446744073709551616)(hb:b<18446744073709551616):bits .or .u64 (a:Int) (b:Int)=((a ||| b:Nat):Int):=u64_or_nat a b ha hb
theorem mul_hi_lt (x y:Nat)(hx:x<18446744073709551616)(hy:y<18446744073709551616):x*y / 18446744073709551616<18446744073709551616:=by
 rw[Nat.div_lt_iff_lt_mul (by omega)]
 exact Nat.mul_lt_mul'' hx hy
theorem div_pow_lt (a s:Nat)(ha:a<18446744073709551616):a / 2^s<18446744073709551616:=Nat.lt_of_le_of_lt (Nat.div_le_self _ _) ha
theorem uscale_any (x h l s:Nat)(w:World)(b o:Nat)(c0:w.cell? ⟨b,o,none⟩=some (.int .u64 h))(c1:w.cell? ⟨b,o+1,none⟩=some (.int .u64 l))(c2:w.cell? ⟨b,o+2,none⟩=some (.int .i64 s))
  (hx:x<18446744073709551616) (hh:h<18446744073709551616) (hl:l<18446744073709551616) (hs:s<64) :
  Calls Tryz.prog 274 #[.int .u64 x,.pointer (some ⟨b,o,none⟩)] w fun e w'=>e=.returned (.int .u64 (uscN x h l s:Nat))∧∃ n,w'=w.drewN n:=by
 obtain⟨hi,h1⟩:∃ hi,x*h / 18446744073709551616=hi:=⟨_,rfl⟩
 obtain⟨mid,h2⟩:∃ mid,x*h%18446744073709551616=mid:=⟨_,rfl⟩
 obtain⟨mid2,h3⟩:∃ mid2,x*l / 18446744073709551616=mid2:=⟨_,rfl⟩
 obtain⟨lo2,h4⟩:∃ lo2,x*l%18446744073709551616=lo2:=⟨_,rfl⟩
 have b1:hi<18446744073709551616:=by rw[← h1];exact mul_hi_lt x h hx hh
 have b2:mid<18446744073709551616:=by rw[← h2];exact Nat.mod_lt _ (by omega)
 have b3:mid2<18446744073709551616:=by rw[← h3];exact mul_hi_lt x l hx hl
 have d1:hi / 2^s<18446744073709551616:=div_pow_lt hi s b1
 have hp:((2:Int)^s)=((2^s:Nat):Int):=by simp
 have hdiv:(hi:Int) / 2^s=((hi / 2^s:Nat):Int):=by rw[hp,Int.natCast_ediv]
 have hmul:hi / 2^s*2^s≤hi:=Nat.div_mul_le_self _ _
 have hw:IntKind.u64.wrap ((hi:Int) / 2^s*2^s)=((hi / 2^s*2^s:Nat):Int):=by
  rw[hdiv,hp,← Int.natCast_mul]
  exact wrap_nat _ (by omega)
 by_cases hc:hi / 2^s*2^s≠hi
 ·refine(uscale_far x h l s hi mid w b o c0 c1 c2 hx hh hs h1 h2 (by rw[hw,bne_iff_ne];omega)).mono ?_
  rintro e w' ⟨rfl,rfl⟩
  refine⟨?_,0,rfl⟩
  have:uscN x h l s=hi / 2^s ||| 1:=by
   unfold uscN
   simp only[h1]
   rw[if_pos hc]
  rw[this,hdiv]
  have:=or_nat (hi / 2^s) 1 d1 (by omega)
  rw[← this]
  rfl
 ·have hw2:IntKind.u64.wrap ((mid:Int)-mid2)=(((mid+18446744073709551616-mid2)%18446744073709551616:Nat):Int):=by
   rw[wrap_u64]
   omega
  have hz:IntKind.u64.wrap (if decide (mid<mid2)=true then (hi:Int)-1 else (hi:Int))=(((if mid<mid2 then (hi+18446744073709551615)%18446744073709551616 else hi):Nat):Int):=by
   by_cases hq:mid<mid2
   ·simp only[hq,decide_true,if_true]
    rw[wrap_u64]
    omega
   ·simp only[hq,decide_false,if_false,Bool.false_eq_true]
    exact wrap_nat _ b1
  refine(uscale_near x h l s hi mid mid2 lo2 w b o c0 c1 c2 hx hh hl hs h1 h2 h3 h4 (by rw[hw];exact bne_eq_false_iff_eq.2 (by omega)) _ rfl _ hz _ rfl).mono ?_
  rintro e w' ⟨rfl,hn⟩
  refine⟨?_,hn⟩
  have e1:uscN x h l s=(if mid<mid2 then (hi+18446744073709551615)%18446744073709551616 else hi) / 2^s ||| (if 1<(mid+18446744073709551616-mid2)%18446744073709551616 then 1 else 0):=by
   unfold uscN
   simp only[h1,h2,h3]
   rw[if_neg hc]
  obtain⟨H,hH⟩:∃ H,H=(if mid<mid2 then (hi+18446744073709551615)%18446744073709551616 else hi):=⟨_,rfl⟩
  rw[← hH] at e1 ⊢
  have bH:H<18446744073709551616:=by rw[hH];split<;>omega
  rw[e1,hw2]
  have hd2:(H:Int) / 2^s=((H / 2^s:Nat):Int):=by rw[hp,Int.natCast_ediv]
  rw[hd2]
  by_cases hr:1<(mid+18446744073709551616-mid2)%18446744073709551616
  ·rw[if_pos hr,if_pos (decide_eq_true (by omega))]
   have:=or_nat (H / 2^s) 1 (div_pow_lt H s bH) (by omega)
   rw[← this]
   rfl
  ·rw[if_neg hr,if_neg (by rw[decide_eq_true_eq];omega)]
   have:=or_nat (H / 2^s) 0 (div_pow_lt H s bH) (by omega)
   rw[← this]
   rfl
open Go.RowKit
theorem ret_u64 {a b:Int}(h:a=b):Ending.returned (.int .u64 a)=.returned (.int .u64 b):=by rw[h]
theorem log2_any (x:Int)(w:World)(h0:-3000≤x)(h1:x≤3000):Calls Tryz.prog 272 #[.int .i64 x] w fun e w'=>e=.returned (.int .i64 (x*108853 / 32768))∧w=w':=by
 go_enter Tryz.func272,Tryz.ntmps272
 go_wp2
 go_ret
 exact⟨rfl,rfl⟩
theorem log10_any (x:Int)(w:World)(h0:-3000≤x)(h1:x≤3000):Calls Tryz.prog 260 #[.int .i64 x] w fun e w'=>e=.returned (.int .i64 (x*78913 / 262144))∧w=w':=by
 go_enter Tryz.func260,Tryz.ntmps260
 go_wp2
 go_ret
 exact⟨rfl,rfl⟩
theorem skewed_any (x:Int)(w:World)(h0:-3000≤x)(h1:x≤3000):Calls Tryz.prog 282 #[.int .i64 x] w fun e w'=>e=.returned (.int .i64 ((x*631305-261663) / 2097152))∧w=w':=by
 go_enter Tryz.func282,Tryz.ntmps282
 go_wp2
 go_ret
 exact⟨rfl,rfl⟩
theorem nudge_any (u:Nat)(d:Int)(w:World)(_hu:u<18446744073709551616):Calls Tryz.prog 283 #[.int .u64 u,.int .i64 d] w fun e w'=>e=.returned (.int .u64 ((((u:Int)+d)%18446744073709551616).toNat:Nat))∧w=w':=by
 go_enter Tryz.func283,Tryz.ntmps283
 go_wp2
 go_ret
 refine⟨ret_u64 ?_,rfl⟩
 rw[wrap_u64,wrap_u64]
 omega
theorem ceil_any (u:Nat)(w:World)(_hu:u<18446744073709551616):Calls Tryz.prog 284 #[.int .u64 u] w fun e w'=>e=.returned (.int .u64 ((u+3)%18446744073709551616 / 4:Nat))∧w=w':=by
 go_enter Tryz.func284,Tryz.ntmps284
 go_wp2
 go_ret
 refine⟨ret_u64 ?_,rfl⟩
 rw[wrap_u64]
 omega
theorem floor_any (u:Nat)(w:World)(hu:u<18446744073709551616):Calls Tryz.prog 285 #[.int .u64 u] w fun e w'=>e=.returned (.int .u64 (u / 4:Nat))∧w=w':=by
 go_enter Tryz.func285,Tryz.ntmps285
 go_wp2
 go_ret
 refine⟨ret_u64 ?_,rfl⟩
 omega
theorem and1_nat (n:Nat)(h:n<18446744073709551616):bits .and .u64 (n:Int) 1=((n%2:Nat):Int):=by
 have:=and_one_u64 (n:Int) (by omega) (by omega)
 rw[this]
 omega
theorem round_any (u:Nat)(w:World)(hu:u<18446744073709551616):Calls Tryz.prog 277 #[.int .u64 u] w fun e w'=>e=.returned (.int .u64 ((u+1+u / 4%2)%18446744073709551616 / 4:Nat))∧w=w':=by
 have ha:=and1_nat (u / 4) (by omega)
 have e4:((u / 4:Nat):Int)=(u:Int) / 4:=by omega
 rw[e4] at ha
 have HA:=Lib.hid ha
 clear ha e4
 go_enter Tryz.func277,Tryz.ntmps277
 go_wp2
 go_ret
 refine⟨ret_u64 ?_,rfl⟩
 rw[HA.out,wrap_u64,wrap_u64]
 omega
theorem prescale_any (e lp s:Int)(i:Nat)(w:World)(g:Nat)(v0 v1 v2:Value)(fz:Nat × Nat)(hg:w.heap[g]?=some (.cells #[v0,v1,v2] 265 fz))(hf:fz=(0,0))(hi:i<696)(_hne:13≠g)
  (T:Tabs w) (he:-3000≤e) (he2:e≤3000) (hl:-3000≤lp) (hl2:lp≤3000) (hs:-(e+lp+3)=s) :
  Calls Tryz.prog 273 #[.pointer (some ⟨g,0,none⟩),.int .i64 e,.int .i64 ((i:Int)-348),.int .i64 lp] w
   fun e w'=>e=.returned (.tuple #[])∧w'.heap[g]?=some (.cells #[.int .u64 (p10hi i),.int .u64 (p10lo i),.int .i64 s] 265 (0,0))∧Kept (· = g) w w':=by
 subst hf
 obtain⟨t0,t1⟩:=T.p10 i hi
 rw[Nat.mul_comm] at t0 t1
 have c0:=cell_of_row w g 0 _ _ _ hg
 have c1:=cell_of_row w g 1 _ _ _ hg
 have c2:=cell_of_row w g 2 _ _ _ hg
 have z0:=frozen_of_row w g 0 _ _ hg
 have z1:=frozen_of_row w g 1 _ _ hg
 have z2:=frozen_of_row w g 2 _ _ hg
 generalize p10hi i=H at *
 generalize p10lo i=L at *
 clear T
 have HG:=Lib.hid hg
 clear hg
 simp at c0 c1 c2
 go_enter Tryz.func273,Tryz.ntmps273
 go_wp2
 go_end0
 refine⟨rfl,?_,(((Kept.refl (· = g) w).setCell ⟨g,0,none⟩ _ (fun _=>rfl)).setCell ⟨g,1,none⟩ _ (fun _=>rfl)).setCell ⟨g,2,none⟩ _ (fun _=>rfl)⟩
 rw[heap_setCell_same _ _ _ _ _ _ (heap_setCell_same _ _ _ _ _ _ (heap_setCell_same _ _ _ _ _ _ HG.out))]
 simp
end Go.Proofs.YtcfgbdhpcboikaaGreatDoor
