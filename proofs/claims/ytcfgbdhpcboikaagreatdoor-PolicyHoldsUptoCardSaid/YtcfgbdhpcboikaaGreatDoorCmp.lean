/-
Compare (real's and the document's) over float bits.
-/
import Derived.Test.YtcfgbdhpcboikaaGreatDoorSched
namespace Go.Proofs.YtcfgbdhpcboikaaGreatDoor
open Go.Lib (hid)
set_option maxHeartbeats 600000
set_option maxRecDepth 100000
open Go.RowKit
open Go.RowKit
def ltF (a b:Nat):Bool:=FloatKind.f64.format.order a b==some .lt
def gtF (a b:Nat):Bool:=FloatKind.f64.format.order a b==some .gt
open Go.RowKit
def aDZ:Ieee.Datum→Int
  | .nan .. => 2
  | .infinity s=>if s then -1 else 1
  | .number .. => 0
def kvD:Ieee.Datum→Int
  | .number s m i=>Ieee.signed s m (i+1074).toNat
  | _=>0
def aDN:Ieee.Datum→Prop
  | .number _ _ i=>-1074≤i
  | _=>True
def cl (a:Nat):Int:=aDZ (FloatKind.f64.format.read a)
def kv (a:Nat):Int:=kvD (FloatKind.f64.format.read a)
theorem least:Ieee.Format.leastPlace FloatKind.f64.format=-1074:=by kernel_rfl
theorem aAf (a:Nat):aDN (FloatKind.f64.format.read a):=by
  unfold Ieee.Format.read;simp only[];split
  · show -1074≤_
    rw[least];exact Int.le_refl _
  · split
    · show -1074≤_
      rw[least];omega
    · split<;>trivial
theorem yQ (s:Bool)(m a b:Nat):Ieee.signed s m (a+b)=Ieee.signed s m a*(2^b:Nat):=by
  unfold Ieee.signed;have e:m <<< (a+b)=(m <<< a)*2^b:=by rw[Nat.shiftLeft_add,Nat.shiftLeft_eq (m <<< a)]
  split
  · rw[e,Int.natCast_mul,Int.neg_mul]
  · rw[e,Int.natCast_mul]
theorem aFA (x y:Int)(c:Nat)(hc:0<c):compare (x*(c:Int)) (y*(c:Int))=compare x y:=by
  have hc':(0:Int)<c:=by omega
  rcases Int.lt_trichotomy x y with h|h|h
  · rw[Int.compare_eq_lt.2 h,Int.compare_eq_lt.2 (Int.mul_lt_mul_of_pos_right h hc')]
  · subst h
    rw[Int.compare_eq_eq.2 rfl,Int.compare_eq_eq.2 rfl]
  · rw[Int.compare_eq_gt.2 h,Int.compare_eq_gt.2 (Int.mul_lt_mul_of_pos_right h hc')]
theorem aDt (s t:Bool)(m n:Nat)(i j:Int)(hi:-1074≤i)(hj:-1074≤j) :
    (Ieee.Datum.number s m i).order (.number t n j)=some (compare (kvD (.number s m i)) (kvD (.number t n j))):=by
  unfold Ieee.Datum.order kvD;simp only[Option.some.injEq];obtain⟨b,hb⟩:∃b:Int,min i j=b:=⟨_,rfl⟩
  rw[hb];obtain⟨u,hu⟩:∃u:Nat,i-b=u:=⟨(i-b).toNat,by omega⟩
  obtain⟨v,hv⟩:∃v:Nat,j-b=v:=⟨(j-b).toNat,by omega⟩
  obtain⟨c,hc⟩:∃c:Nat,b+1074=c:=⟨(b+1074).toNat,by omega⟩
  have e1:(i+1074).toNat=u+c:=by omega
  have e2:(j+1074).toNat=v+c:=by omega
  rw[e1,e2,hu,hv,Int.toNat_natCast,Int.toNat_natCast,yQ,yQ,aFA _ _ _ (Nat.two_pow_pos c)]
def jA (c1 k1 c2 k2:Int):Int:=if c1<c2 then -1 else if c2<c1 then 1 else if k1<k2 then -1 else if k2<k1 then 1 else 0
def xV (c1 k1 c2 k2:Int):Ordering:=if c1<c2 then .lt else if c2<c1 then .gt else compare k1 k2
theorem aHw (x y:Ieee.Datum)(hx:aDN x)(hy:aDN y):x.order y=if aDZ x=2∨aDZ y=2 then none else some (xV (aDZ x) (kvD x) (aDZ y) (kvD y)):=by
  cases x with
  | nan s f =>
    rw[if_pos (.inl rfl)];cases y<;>rfl
  | infinity s =>
    cases y with
    | nan=>rw[if_pos (.inr rfl)];rfl
    | infinity t=>cases s<;>cases t<;>rfl
    | number t n j=>cases s<;>rfl
  | number s m i =>
    cases y with
    | nan=>rw[if_pos (.inr rfl)];rfl
    | infinity t=>cases t<;>rfl
    | number t n j =>
      rw[aDt s t m n i j hx hy,if_neg (by show ¬((0:Int)=2∨(0:Int)=2);omega)];rfl
theorem xX (a b:Nat):FloatKind.f64.format.order a b=if cl a=2∨cl b=2 then none else some (xV (cl a) (kv a) (cl b) (kv b)) :=
  aHw _ _ (aAf a) (aAf b)
theorem zF:cl 0=0:=by kernel_rfl
theorem aCr:kv 0=0:=by kernel_rfl
theorem aN9 (a b c d:Int):xV a b c d=.lt↔jA a b c d=-1:=by
  unfold xV jA;split
  · simp
  · split
    · simp
    · rw[Int.compare_eq_lt]
      split
      · simp[*]
      · split<;>simp[*]
theorem aN8 (a b c d:Int):xV a b c d=.gt↔jA a b c d=1:=by
  unfold xV jA;split
  · simp
  · split
    · simp
    · rw[Int.compare_eq_gt]
      split
      · constructor
        · intro h;omega
        · intro h;cases h
      · split<;>simp[*]
theorem aN7 (a b c d:Int):xV a b c d=.eq↔jA a b c d=0:=by
  unfold xV jA;split
  · simp
  · split
    · simp
    · rw[Int.compare_eq_eq]
      split
      · constructor
        · intro h;omega
        · intro h;cases h
      · split
        · constructor
          · intro h;omega
          · intro h;cases h
        · constructor
          · intro _;rfl
          · intro _;omega
theorem aJu (a b:Nat):ltF a b=true↔(cl a≠2∧cl b≠2)∧jA (cl a) (kv a) (cl b) (kv b)=-1:=by
  unfold ltF;rw[xX];by_cases h:cl a=2∨cl b=2
  · rw[if_pos h]
    constructor
    · intro h';cases h'
    · rintro⟨⟨h1,h2⟩,_⟩;rcases h with h|h<;>contradiction
  · rw[if_neg h]
    have h':=not_or.1 h;rw[beq_iff_eq,Option.some.injEq,aN9];exact⟨fun x=>⟨⟨h'.1,h'.2⟩,x⟩,fun x=>x.2⟩
theorem aEk (a b:Nat):gtF a b=true↔(cl a≠2∧cl b≠2)∧jA (cl a) (kv a) (cl b) (kv b)=1:=by
  unfold gtF;rw[xX];by_cases h:cl a=2∨cl b=2
  · rw[if_pos h]
    constructor
    · intro h';cases h'
    · rintro⟨⟨h1,h2⟩,_⟩;rcases h with h|h<;>contradiction
  · rw[if_neg h]
    have h':=not_or.1 h;rw[beq_iff_eq,Option.some.injEq,aN8];exact⟨fun x=>⟨⟨h'.1,h'.2⟩,x⟩,fun x=>x.2⟩
theorem aBa (a b:Nat):(FloatKind.f64.format.order a b==some .eq)=true↔(cl a≠2∧cl b≠2)∧jA (cl a) (kv a) (cl b) (kv b)=0:=by
  rw[xX];by_cases h:cl a=2∨cl b=2
  · rw[if_pos h]
    constructor
    · intro h';cases h'
    · rintro⟨⟨h1,h2⟩,_⟩;rcases h with h|h<;>contradiction
  · rw[if_neg h]
    have h':=not_or.1 h;rw[beq_iff_eq,Option.some.injEq,aN7];exact⟨fun x=>⟨⟨h'.1,h'.2⟩,x⟩,fun x=>x.2⟩
open Go.RowKit
theorem pO (a:ByteArray)(l:List UInt8)(h:a.data.toList=l):a=⟨l.toArray⟩:=by
  subst h;rfl
theorem eK (a b:ByteArray):(a++b).data.toList=a.data.toList++b.data.toList:=by simp
theorem iE {a:ByteArray}{l:List UInt8}(h:a.data.toList=l):Ending.returned (.string a)=.returned (.string ⟨l.toArray⟩):=by rw[pO a l h]
theorem oO (n:Int)(w:World)(T:aA w)(h0:-9223372036854775808≤n)(h1:n≤9223372036854775807) :
    Calls Tryz.prog 116 #[.int .i64 n] w fun e w'=>e=.returned (.string ⟨(Lib.itoa n).toArray⟩)∧Below w.heap.size w w':=by
  refine(Tryz.strconv_Itoa n h0 h1 w T.u10).mono ?_;rintro e w' ⟨rfl,k,os,rfl⟩;refine⟨rfl,rfl,rfl,rfl,?_,?_⟩
  · show w.heap.size≤(w.heap++os).size
    simp
  · intro j hj
    show(w.heap++os)[j]?=w.heap[j]?;rw[Array.getElem?_append_left hj]
theorem oP (n:Int)(h0:-9223372036854775808≤n)(h1:n≤9223372036854775807):(Lib.itoa n).length≤21:=by
  unfold Lib.itoa;split
  · rw[List.length_cons,Lib.decDigits_length]
    have:=gM n.natAbs (by omega);omega
  · rw[Lib.decDigits_length]
    have:=gM n.toNat (by omega);omega
structure uX (b:Nat):Prop where
  real:(FloatKind.f64.format.order b b !=some .eq)=false
  fin:lW b=false
  nz:(FloatKind.f64.format.order b 0==some .eq)=false
  pos:(FloatKind.f64.format.order b 0==some .lt)=false
theorem aDu (b:Nat)(txt hd tl:List UInt8)(d:UInt8)(x:Int)(w:World)(T:aA w)(hF:lZ b txt)(hP:lG txt [d] x hd tl)(hB:uX b)(hx:x+1 < -5) :
    Calls Tryz.prog 63 #[.float .f64 b] w fun e w'=>e=.returned (.string ⟨(d :: [101,45]++Lib.itoa (-x)).toArray⟩)∧Below w.heap.size w w':=by
  have HF:=hid hF;have HT:=hid T;have HP:=hid hP;have x1:=hP.lo;have x2:=hP.hi;have r1:=hB.real;have r3:=hB.nz;have r4:=hB.pos;have II:=fun w=>gL b false w hB.fin
  have HII:=hid II;obtain⟨s,hs⟩:∃s:ByteArray,s=⟨[d].toArray⟩:=⟨_,rfl⟩
  have hsl:s.data.toList=[d]:=by rw[hs]
  have hsz:s.size=1:=by rw[aS,hsl];rfl
  obtain⟨s1,e1,z1,c1'⟩:=pP s 1 (by omega);have c1:∀w,(Instr.slice 9 (.string s) none (some (.int .i64 1)) none).run Tryz.prog w=.ok (.string s1) w:=c1';rw[hsl]at e1
  have HS:=hid hs;have HSL:=hid hsl;have HE1:=hid e1;clear hF T hP hB II hs hsl e1 c1';go_enter Tryz.func63,Tryz.ntmps63
  go_wp2_with (go_at_call 67;((with_reducible refine(HII.out _).mono ?_);rintro e w' ⟨rfl,rfl⟩))
  refine(kW b txt [d] hd tl x _ HT.out HF.out HP.out).mono ?_;rw[←HS.out];rintro e w2 ⟨rfl,B2⟩;have HB2:=hid B2;have HT2:=hid (HT.out.below B2 (Nat.le_refl _));clear B2;go_wp2_with fail
  have hil:=oP (1-(x+1)) (by omega) (by omega);refine(oO (1-(x+1)) _ HT2.out (by omega) (by omega)).mono ?_;rintro e w3 ⟨rfl,B3⟩;have HB3:=hid (HB2.out.trans (B3.mono HB2.out.size));clear B3;go_wp2
  go_ret;refine⟨iE ?_,HB3.out⟩;simp only[eK];rw[HE1.out,show 1-(x+1)=-x by omega];simp
theorem aDv (b:Nat)(txt hd tl:List UInt8)(d:UInt8)(x:Int)(w:World)(T:aA w)(hF:lZ b txt)(hP:lG txt [d] x hd tl)(hB:uX b)(hx:21<x+1) :
    Calls Tryz.prog 63 #[.float .f64 b] w fun e w'=>e=.returned (.string ⟨(d :: [101,43]++Lib.itoa x).toArray⟩)∧Below w.heap.size w w':=by
  have HF:=hid hF;have HT:=hid T;have HP:=hid hP;have x1:=hP.lo;have x2:=hP.hi;have r1:=hB.real;have r3:=hB.nz;have r4:=hB.pos;have II:=fun w=>gL b false w hB.fin
  have HII:=hid II;obtain⟨s,hs⟩:∃s:ByteArray,s=⟨[d].toArray⟩:=⟨_,rfl⟩
  have hsl:s.data.toList=[d]:=by rw[hs]
  have hsz:s.size=1:=by rw[aS,hsl];rfl
  obtain⟨s1,e1,z1,c1'⟩:=pP s 1 (by omega);have c1:∀w,(Instr.slice 9 (.string s) none (some (.int .i64 1)) none).run Tryz.prog w=.ok (.string s1) w:=c1';rw[hsl]at e1
  have HS:=hid hs;have HSL:=hid hsl;have HE1:=hid e1;clear hF T hP hB II hs hsl e1 c1';go_enter Tryz.func63,Tryz.ntmps63
  go_wp2_with (go_at_call 67;((with_reducible refine(HII.out _).mono ?_);rintro e w' ⟨rfl,rfl⟩))
  refine(kW b txt [d] hd tl x _ HT.out HF.out HP.out).mono ?_;rw[←HS.out];rintro e w2 ⟨rfl,B2⟩;have HB2:=hid B2;have HT2:=hid (HT.out.below B2 (Nat.le_refl _));clear B2;go_wp2_with fail
  have hil:=oP x (by omega) (by omega);refine(oO x _ HT2.out (by omega) (by omega)).mono ?_;rintro e w3 ⟨rfl,B3⟩;have HB3:=hid (HB2.out.trans (B3.mono HB2.out.size));clear B3;go_wp2
  go_ret;refine⟨iE ?_,HB3.out⟩;simp only[eK];rw[HE1.out];simp
theorem aCv (b k:Nat)(txt hd tl:List UInt8)(d:UInt8)(D:List UInt8)(x:Int)(w:World)(T:aA w)(hF:lZ b txt)(hP:lG txt (d :: D) x hd tl)(hB:uX b)(hx:x+1 < -5)(hk:D.length=k)(k1:1≤k)(k2:k≤20) :
    Calls Tryz.prog 63 #[.float .f64 b] w fun e w'=>e=.returned (.string ⟨(d :: 46 :: D++[101,45]++Lib.itoa (-x)).toArray⟩)∧Below w.heap.size w w':=by
  have HF:=hid hF;have HT:=hid T;have HP:=hid hP;have x1:=hP.lo;have x2:=hP.hi;have r1:=hB.real;have r3:=hB.nz;have r4:=hB.pos;have II:=fun w=>gL b false w hB.fin
  have HII:=hid II;obtain⟨s,hs⟩:∃s:ByteArray,s=⟨(d :: D).toArray⟩:=⟨_,rfl⟩
  have hsl:s.data.toList=(d :: D):=by rw[hs]
  have hsz:s.size=k+1:=by rw[aS,hsl];simp[hk]
  obtain⟨s1,e1,z1,c1'⟩:=pP s 1 (by omega);have c1:∀w,(Instr.slice 9 (.string s) none (some (.int .i64 1)) none).run Tryz.prog w=.ok (.string s1) w:=c1';rw[hsl]at e1
  obtain⟨s2,e2,z2,c2'⟩:=fR s 1 (by omega);have c2:∀w,(Instr.slice 9 (.string s) (some (.int .i64 1)) none none).run Tryz.prog w=.ok (.string s2) w:=c2';rw[hsl]at e2
  have HE2:=hid e2;clear e2 c2';have HS:=hid hs;have HSL:=hid hsl;have HE1:=hid e1;clear hF T hP hB II hs hsl e1 c1';go_enter Tryz.func63,Tryz.ntmps63
  go_wp2_with (go_at_call 67;((with_reducible refine(HII.out _).mono ?_);rintro e w' ⟨rfl,rfl⟩))
  refine(kW b txt (d :: D) hd tl x _ HT.out HF.out HP.out).mono ?_;rw[←HS.out];rintro e w2 ⟨rfl,B2⟩;have HB2:=hid B2;have HT2:=hid (HT.out.below B2 (Nat.le_refl _));clear B2;go_wp2_with fail
  have hil:=oP (1-(x+1)) (by omega) (by omega);refine(oO (1-(x+1)) _ HT2.out (by omega) (by omega)).mono ?_;rintro e w3 ⟨rfl,B3⟩;have HB3:=hid (HB2.out.trans (B3.mono HB2.out.size));clear B3;go_wp2
  go_ret;refine⟨iE ?_,HB3.out⟩;simp only[eK];rw[HE1.out,HE2.out,show 1-(x+1)=-x by omega];simp
theorem aCw (b k:Nat)(txt hd tl:List UInt8)(d:UInt8)(D:List UInt8)(x:Int)(w:World)(T:aA w)(hF:lZ b txt)(hP:lG txt (d :: D) x hd tl)(hB:uX b)(hx:21<x+1)(hk:D.length=k)(k1:1≤k)(k2:k≤20) :
    Calls Tryz.prog 63 #[.float .f64 b] w fun e w'=>e=.returned (.string ⟨(d :: 46 :: D++[101,43]++Lib.itoa x).toArray⟩)∧Below w.heap.size w w':=by
  have HF:=hid hF;have HT:=hid T;have HP:=hid hP;have x1:=hP.lo;have x2:=hP.hi;have r1:=hB.real;have r3:=hB.nz;have r4:=hB.pos;have II:=fun w=>gL b false w hB.fin
  have HII:=hid II;obtain⟨s,hs⟩:∃s:ByteArray,s=⟨(d :: D).toArray⟩:=⟨_,rfl⟩
  have hsl:s.data.toList=(d :: D):=by rw[hs]
  have hsz:s.size=k+1:=by rw[aS,hsl];simp[hk]
  obtain⟨s1,e1,z1,c1'⟩:=pP s 1 (by omega);have c1:∀w,(Instr.slice 9 (.string s) none (some (.int .i64 1)) none).run Tryz.prog w=.ok (.string s1) w:=c1';rw[hsl]at e1
  obtain⟨s2,e2,z2,c2'⟩:=fR s 1 (by omega);have c2:∀w,(Instr.slice 9 (.string s) (some (.int .i64 1)) none none).run Tryz.prog w=.ok (.string s2) w:=c2';rw[hsl]at e2
  have HE2:=hid e2;clear e2 c2';have HS:=hid hs;have HSL:=hid hsl;have HE1:=hid e1;clear hF T hP hB II hs hsl e1 c1';go_enter Tryz.func63,Tryz.ntmps63
  go_wp2_with (go_at_call 67;((with_reducible refine(HII.out _).mono ?_);rintro e w' ⟨rfl,rfl⟩))
  refine(kW b txt (d :: D) hd tl x _ HT.out HF.out HP.out).mono ?_;rw[←HS.out];rintro e w2 ⟨rfl,B2⟩;have HB2:=hid B2;have HT2:=hid (HT.out.below B2 (Nat.le_refl _));clear B2;go_wp2_with fail
  have hil:=oP x (by omega) (by omega);refine(oO x _ HT2.out (by omega) (by omega)).mono ?_;rintro e w3 ⟨rfl,B3⟩;have HB3:=hid (HB2.out.trans (B3.mono HB2.out.size));clear B3;go_wp2
  go_ret;refine⟨iE ?_,HB3.out⟩;simp only[eK];rw[HE1.out,HE2.out];simp
open Go.RowKit
theorem aDw (n:Nat):Lib.repeatL [48] n=List.replicate n 48:=by
  induction n with
  | zero=>rfl
  | succ n ih=>rw[Lib.repeatL,ih];rfl
theorem aBw (n:Int)(w:World)(h0:0≤n)(h1:n≤1000) :
    Calls Tryz.prog 115 #[.string { data:=#[48] },.int .i64 n] w fun e w'=>e=.returned (.string ⟨(List.replicate n.toNat (48:UInt8)).toArray⟩)∧Below w.heap.size w w':=by
  obtain⟨c,rfl⟩:∃c:Nat,n=c:=⟨n.toNat,by omega⟩
  refine (Tryz.strings_Repeat { data := #[48] } c w (by omega) (by have e : ({ data := #[48] } : ByteArray).size = 1 := rfl
                                                                   rw [e]; omega)).mono ?_
  rintro e w' ⟨rfl,h⟩;refine⟨?_,h⟩;rw[show({ data:=#[48] }:ByteArray).data.toList=[48]from rfl,aDw,Int.toNat_natCast]
theorem aFU (b:Nat)(txt hd tl D:List UInt8)(x:Int)(w:World)(T:aA w)(hF:lZ b txt)(hP:lG txt D x hd tl)(hB:uX b)(hk:(D.length:Int)≤x+1)(hx:x+1≤21) :
    Calls Tryz.prog 63 #[.float .f64 b] w fun e w'=>e=.returned (.string ⟨(D++List.replicate (x+1-D.length).toNat 48).toArray⟩)∧Below w.heap.size w w':=by
  obtain⟨k,hkk⟩:∃k,k=D.length:=⟨_,rfl⟩
  rw[←hkk]at hk ⊢
  have HF:=hid hF;have HT:=hid T;have HP:=hid hP;have x1:=hP.lo;have x2:=hP.hi;have r1:=hB.real;have r3:=hB.nz;have r4:=hB.pos;have II:=fun w=>gL b false w hB.fin
  have HII:=hid II;obtain⟨s,hs⟩:∃s:ByteArray,s=⟨D.toArray⟩:=⟨_,rfl⟩
  have hsl:s.data.toList=D:=by rw[hs]
  have hsz:s.size=k:=by rw[aS,hsl,hkk]
  have HS:=hid hs;have HSL:=hid hsl;clear hF T hP hB II hs hsl hkk;go_enter Tryz.func63,Tryz.ntmps63
  go_wp2_with (go_at_call 67;((with_reducible refine(HII.out _).mono ?_);rintro e w' ⟨rfl,rfl⟩))
  refine(kW b txt D hd tl x _ HT.out HF.out HP.out).mono ?_;rw[←HS.out];rintro e w2 ⟨rfl,B2⟩;have HB2:=hid B2;clear B2;obtain⟨r,hr⟩:∃r:ByteArray,r=⟨(List.replicate (x+1-k).toNat (48:UInt8)).toArray⟩:=⟨_,rfl⟩
  have hrl:r.data.toList=List.replicate (x+1-k).toNat 48:=by rw[hr]
  have hrz:r.size≤1000:=by rw[aS,hrl,List.length_replicate];omega
  have HR:=hid hr;have HRL:=hid hrl;clear hr hrl;go_wp2_with fail
  refine(aBw (x+1-k) _ (by omega) (by omega)).mono ?_;rw[←HR.out];rintro e w3 ⟨rfl,B3⟩;have HB3:=hid (HB2.out.trans (B3.mono HB2.out.size));clear B3;go_wp2
  go_ret;refine⟨iE ?_,HB3.out⟩;simp only[eK];rw[HSL.out,HRL.out]
theorem aHF (b:Nat)(txt hd tl D:List UInt8)(x:Int)(w:World)(T:aA w)(hF:lZ b txt)(hP:lG txt D x hd tl)(hB:uX b)(hk:D.length≤30)(h1:1≤D.length)(hx:x+1≤0)(hl:-5≤x+1) :
    Calls Tryz.prog 63 #[.float .f64 b] w fun e w'=>e=.returned (.string ⟨([48,46]++List.replicate (-(x+1)).toNat 48++D).toArray⟩)∧Below w.heap.size w w':=by
  obtain⟨k,hkk⟩:∃k,k=D.length:=⟨_,rfl⟩
  rw[←hkk]at hk h1
  have HF:=hid hF;have HT:=hid T;have HP:=hid hP;have x1:=hP.lo;have x2:=hP.hi;have r1:=hB.real;have r3:=hB.nz;have r4:=hB.pos;have II:=fun w=>gL b false w hB.fin
  have HII:=hid II;obtain⟨s,hs⟩:∃s:ByteArray,s=⟨D.toArray⟩:=⟨_,rfl⟩
  have hsl:s.data.toList=D:=by rw[hs]
  have hsz:s.size=k:=by rw[aS,hsl,hkk]
  have HS:=hid hs;have HSL:=hid hsl;clear hF T hP hB II hs hsl hkk;have hng:¬(k:Int)≤x+1:=by omega
  have hng2:decide ((k:Int)≤x+1)=false:=decide_eq_false hng;have hng3:decide (1≤x+1)=false:=decide_eq_false (by omega);go_enter Tryz.func63,Tryz.ntmps63
  go_wp2_with (go_at_call 67;((with_reducible refine(HII.out _).mono ?_);rintro e w' ⟨rfl,rfl⟩))
  refine(kW b txt D hd tl x _ HT.out HF.out HP.out).mono ?_;rw[←HS.out];rintro e w2 ⟨rfl,B2⟩;have HB2:=hid B2;clear B2;obtain⟨r,hr⟩:∃r:ByteArray,r=⟨(List.replicate (-(x+1)).toNat (48:UInt8)).toArray⟩:=⟨_,rfl⟩
  have hrl:r.data.toList=List.replicate (-(x+1)).toNat 48:=by rw[hr]
  have hrz:r.size≤1000:=by rw[aS,hrl,List.length_replicate];omega
  have HR:=hid hr;have HRL:=hid hrl;clear hr hrl;go_wp2_with fail
  refine(aBw (-(x+1)) _ (by omega) (by omega)).mono ?_;rw[←HR.out];rintro e w3 ⟨rfl,B3⟩;have HB3:=hid (HB2.out.trans (B3.mono HB2.out.size));clear B3;go_wp2
  go_ret;refine⟨iE ?_,HB3.out⟩;simp only[eK];rw[HSL.out,HRL.out];rfl
theorem aFT (b:Nat)(txt hd tl D:List UInt8)(x:Int)(w:World)(T:aA w)(hF:lZ b txt)(hP:lG txt D x hd tl)(hB:uX b)(hk:x+1<(D.length:Int))(hl:1≤x+1)(hx:x+1≤21)(hk3:D.length≤30) :
    Calls Tryz.prog 63 #[.float .f64 b] w fun e w'=>e=.returned (.string ⟨(D.take (x+1).toNat++[46]++D.drop (x+1).toNat).toArray⟩)∧Below w.heap.size w w':=by
  obtain⟨k,hkk⟩:∃k,k=D.length:=⟨_,rfl⟩
  rw[←hkk]at hk hk3
  have HF:=hid hF;have HT:=hid T;have HP:=hid hP;have x1:=hP.lo;have x2:=hP.hi;have r1:=hB.real;have r3:=hB.nz;have r4:=hB.pos;have II:=fun w=>gL b false w hB.fin
  have HII:=hid II;obtain⟨s,hs⟩:∃s:ByteArray,s=⟨D.toArray⟩:=⟨_,rfl⟩
  have hsl:s.data.toList=D:=by rw[hs]
  have hsz:s.size=k:=by rw[aS,hsl,hkk]
  obtain⟨p,hp⟩:∃p:Nat,x+1=p:=⟨(x+1).toNat,by omega⟩
  obtain⟨s1,e1,z1,c1'⟩:=pP s p (by omega);have c1:∀w,(Instr.slice 9 (.string s) none (some (.int .i64 (x+1))) none).run Tryz.prog w=.ok (.string s1) w:=by rw[hp];exact c1'
  rw[hsl]at e1
  obtain⟨s2,e2,z2,c2'⟩:=fR s p (by omega);have c2:∀w,(Instr.slice 9 (.string s) (some (.int .i64 (x+1))) none none).run Tryz.prog w=.ok (.string s2) w:=by rw[hp];exact c2'
  rw[hsl]at e2
  have b1:s1.size≤30:=by omega
  have b2:s2.size≤30:=by omega
  have HE1:=hid e1;have HE2:=hid e2;have HPP:=hid hp;clear e1 e2 c1' c2' hp;have HS:=hid hs;have HSL:=hid hsl;clear hF T hP hB II hs hsl hkk;go_enter Tryz.func63,Tryz.ntmps63
  go_wp2_with (go_at_call 67;((with_reducible refine(HII.out _).mono ?_);rintro e w' ⟨rfl,rfl⟩))
  refine(kW b txt D hd tl x _ HT.out HF.out HP.out).mono ?_;rw[←HS.out];rintro e w2 ⟨rfl,B2⟩;have HB2:=hid B2;clear B2;go_wp2_with fail
  go_quiet (fail)
  go_wp2
  go_ret;refine⟨iE ?_,HB2.out.trans ⟨rfl,rfl,rfl,Nat.le_refl _,fun _ _=>rfl⟩⟩;simp only[eK];rw[HE1.out,HE2.out,HPP.out,Int.toNat_natCast]
theorem vR (b:Nat)(w:World)(h1:(FloatKind.f64.format.order b b !=some .eq)=false)(h2:lW b=false)(h3:(FloatKind.f64.format.order b 0==some .eq)=true) :
    Calls Tryz.prog 63 #[.float .f64 b] w fun e w'=>e=.returned (.string { data:=#[48] })∧w=w':=by
  have II:=fun w=>gL b false w h2
  have HII:=hid II;clear II h2;go_enter Tryz.func63,Tryz.ntmps63
  go_wp2_with (go_at_call 67;((with_reducible refine(HII.out _).mono ?_);rintro e w' ⟨rfl,rfl⟩))
  go_ret;exact⟨rfl,rfl⟩
theorem aEb:FloatKind.f64.format.fractionBits=52:=by kernel_rfl
theorem aBd:FloatKind.f64.format.binade=4503599627370496:=by kernel_rfl
theorem aGp:FloatKind.f64.format.infRung=2047*4503599627370496:=by kernel_rfl
theorem aEc:FloatKind.f64.format.signWeight=9223372036854775808:=by kernel_rfl
theorem aM6 (b:Nat)(h:b<9223372036854775808):tG b=b:=by
  unfold tG;have e:bits .andNot .u64 (b:Int) 9223372036854775808=(b:Int):=by
    show IntKind.u64.wrap ((BitVec.ofInt 64 (b:Int) &&& ~~~BitVec.ofInt 64 9223372036854775808).toNat:Int)=_;have p63:(2:Nat)^63=9223372036854775808:=by decide
    rw[BitVec.toNat_and,ofInt_u64 b (by omega),show(~~~BitVec.ofInt 64 9223372036854775808).toNat=2^63-1 by decide,Nat.and_two_pow_sub_one_eq_mod,Nat.mod_eq_of_lt (by omega),cW];omega
  rw[e,Int.toNat_natCast]
end Go.Proofs.YtcfgbdhpcboikaaGreatDoor
