/-
Compare (real's and the document's) over float bits.
-/
import Derived.Test.YtcfgbdhpcboikaaGreatDoorFmtF
import Derived.Test.YtcfgbdhpcboikaaGreatDoorReadC
namespace Go.Proofs.YtcfgbdhpcboikaaGreatDoor
open Go.Lib (hid)
set_option maxHeartbeats 2000000
set_option maxRecDepth 100000
open Go.RowKit
open Go.RowKit
def ltF (a b:Nat):Bool:=FloatKind.f64.format.order a b==some .lt
def gtF (a b:Nat):Bool:=FloatKind.f64.format.order a b==some .gt
open Go.RowKit
def aDa:Ieee.Datum→Int
  | .nan .. => 2
  | .infinity s=>if s then -1 else 1
  | .number .. => 0
def kvD:Ieee.Datum→Int
  | .number s m i=>Ieee.signed s m (i+1074).toNat
  | _=>0
def aCZ:Ieee.Datum→Prop
  | .number _ _ i=>-1074≤i
  | _=>True
def cl (a:Nat):Int:=aDa (FloatKind.f64.format.read a)
def kv (a:Nat):Int:=kvD (FloatKind.f64.format.read a)
theorem least:Ieee.Format.leastPlace FloatKind.f64.format=-1074:=by kernel_rfl
theorem yE (a:Nat):aCZ (FloatKind.f64.format.read a):=by
  unfold Ieee.Format.read;simp only[];split
  · show -1074≤_
    rw[least];exact Int.le_refl _
  · split
    · show -1074≤_
      rw[least];omega
    · split<;>trivial
theorem wC (s:Bool)(m a b:Nat):Ieee.signed s m (a+b)=Ieee.signed s m a*(2^b:Nat):=by
  unfold Ieee.signed;have e:m <<< (a+b)=(m <<< a)*2^b:=by rw[Nat.shiftLeft_add,Nat.shiftLeft_eq (m <<< a)]
  split
  · rw[e,Int.natCast_mul,Int.neg_mul]
  · rw[e,Int.natCast_mul]
theorem aEl (x y:Int)(c:Nat)(hc:0<c):compare (x*(c:Int)) (y*(c:Int))=compare x y:=by
  have hc':(0:Int)<c:=by omega
  rcases Int.lt_trichotomy x y with h|h|h
  · rw[Int.compare_eq_lt.2 h,Int.compare_eq_lt.2 (Int.mul_lt_mul_of_pos_right h hc')]
  · subst h
    rw[Int.compare_eq_eq.2 rfl,Int.compare_eq_eq.2 rfl]
  · rw[Int.compare_eq_gt.2 h,Int.compare_eq_gt.2 (Int.mul_lt_mul_of_pos_right h hc')]
theorem aCA (s t:Bool)(m n:Nat)(i j:Int)(hi:-1074≤i)(hj:-1074≤j) :
    (Ieee.Datum.number s m i).order (.number t n j)=some (compare (kvD (.number s m i)) (kvD (.number t n j))):=by
  unfold Ieee.Datum.order kvD;simp only[Option.some.injEq];obtain⟨b,hb⟩:∃b:Int,min i j=b:=⟨_,rfl⟩
  rw[hb];obtain⟨u,hu⟩:∃u:Nat,i-b=u:=⟨(i-b).toNat,by omega⟩
  obtain⟨v,hv⟩:∃v:Nat,j-b=v:=⟨(j-b).toNat,by omega⟩
  obtain⟨c,hc⟩:∃c:Nat,b+1074=c:=⟨(b+1074).toNat,by omega⟩
  have e1:(i+1074).toNat=u+c:=by omega
  have e2:(j+1074).toNat=v+c:=by omega
  rw[e1,e2,hu,hv,Int.toNat_natCast,Int.toNat_natCast,wC,wC,aEl _ _ _ (Nat.two_pow_pos c)]
def kB (c1 k1 c2 k2:Int):Int:=if c1<c2 then -1 else if c2<c1 then 1 else if k1<k2 then -1 else if k2<k1 then 1 else 0
def vS (c1 k1 c2 k2:Int):Ordering:=if c1<c2 then .lt else if c2<c1 then .gt else compare k1 k2
theorem aFG (x y:Ieee.Datum)(hx:aCZ x)(hy:aCZ y):x.order y=if aDa x=2∨aDa y=2 then none else some (vS (aDa x) (kvD x) (aDa y) (kvD y)):=by
  cases x with
  | nan s f =>
    rw[if_pos (.inl rfl)];cases y<;>rfl
  | infinity s =>
    cases y with
    | nan=>rw[if_pos (.inr rfl)];rfl
    | infinity t=>cases s<;>cases t<;>rfl
    | number t n j=>cases s<;>rfl
  | number s m i =>
    cases y with
    | nan=>rw[if_pos (.inr rfl)];rfl
    | infinity t=>cases t<;>rfl
    | number t n j =>
      rw[aCA s t m n i j hx hy,if_neg (by show ¬((0:Int)=2∨(0:Int)=2);omega)];rfl
theorem vU (a b:Nat):FloatKind.f64.format.order a b=if cl a=2∨cl b=2 then none else some (vS (cl a) (kv a) (cl b) (kv b)) :=
  aFG _ _ (yE a) (yE b)
theorem wV:cl 0=0:=by kernel_rfl
theorem aBq:kv 0=0:=by kernel_rfl
theorem aLb (a b c d:Int):vS a b c d=.lt↔kB a b c d=-1:=by
  unfold vS kB;split
  · simp
  · split
    · simp
    · rw[Int.compare_eq_lt]
      split
      · simp[*]
      · split<;>simp[*]
theorem aLa (a b c d:Int):vS a b c d=.gt↔kB a b c d=1:=by
  unfold vS kB;split
  · simp
  · split
    · simp
    · rw[Int.compare_eq_gt]
      split
      · constructor
        · intro h;omega
        · intro h;cases h
      · split<;>simp[*]
theorem aK9 (a b c d:Int):vS a b c d=.eq↔kB a b c d=0:=by
  unfold vS kB;split
  · simp
  · split
    · simp
    · rw[Int.compare_eq_eq]
      split
      · constructor
        · intro h;omega
        · intro h;cases h
      · split
        · constructor
          · intro h;omega
          · intro h;cases h
        · constructor
          · intro _;rfl
          · intro _;omega
theorem aHe (a b:Nat):ltF a b=true↔(cl a≠2∧cl b≠2)∧kB (cl a) (kv a) (cl b) (kv b)=-1:=by
  unfold ltF;rw[vU];by_cases h:cl a=2∨cl b=2
  · rw[if_pos h]
    constructor
    · intro h';cases h'
    · rintro⟨⟨h1,h2⟩,_⟩;rcases h with h|h<;>contradiction
  · rw[if_neg h]
    have h':=not_or.1 h;rw[beq_iff_eq,Option.some.injEq,aLb];exact⟨fun x=>⟨⟨h'.1,h'.2⟩,x⟩,fun x=>x.2⟩
theorem aDo (a b:Nat):gtF a b=true↔(cl a≠2∧cl b≠2)∧kB (cl a) (kv a) (cl b) (kv b)=1:=by
  unfold gtF;rw[vU];by_cases h:cl a=2∨cl b=2
  · rw[if_pos h]
    constructor
    · intro h';cases h'
    · rintro⟨⟨h1,h2⟩,_⟩;rcases h with h|h<;>contradiction
  · rw[if_neg h]
    have h':=not_or.1 h;rw[beq_iff_eq,Option.some.injEq,aLa];exact⟨fun x=>⟨⟨h'.1,h'.2⟩,x⟩,fun x=>x.2⟩
theorem aGP (a b:Nat):(FloatKind.f64.format.order a b==some .eq)=true↔(cl a≠2∧cl b≠2)∧kB (cl a) (kv a) (cl b) (kv b)=0:=by
  rw[vU];by_cases h:cl a=2∨cl b=2
  · rw[if_pos h]
    constructor
    · intro h';cases h'
    · rintro⟨⟨h1,h2⟩,_⟩;rcases h with h|h<;>contradiction
  · rw[if_neg h]
    have h':=not_or.1 h;rw[beq_iff_eq,Option.some.injEq,aK9];exact⟨fun x=>⟨⟨h'.1,h'.2⟩,x⟩,fun x=>x.2⟩
open Go.RowKit
theorem aGx (a:ByteArray)(l:List UInt8)(h:a.data.toList=l):a=⟨l.toArray⟩:=by
  subst h;rfl
theorem lV (a b:ByteArray):(a++b).data.toList=a.data.toList++b.data.toList:=by simp
theorem mG {a:ByteArray}{l:List UInt8}(h:a.data.toList=l):Ending.returned (.string a)=.returned (.string ⟨l.toArray⟩):=by rw[aGx a l h]
theorem xA (n:Int)(w:World)(T:aB w)(h0:-9223372036854775808≤n)(h1:n≤9223372036854775807) :
    Calls Tryz.prog 116 #[.int .i64 n] w fun e w'=>e=.returned (.string ⟨(Lib.itoa n).toArray⟩)∧Below w.heap.size w w':=by
  refine(Tryz.strconv_Itoa n h0 h1 w T.u10).mono ?_;rintro e w' ⟨rfl,k,os,rfl⟩;refine⟨rfl,rfl,rfl,rfl,?_,?_⟩
  · show w.heap.size≤(w.heap++os).size
    simp
  · intro j hj
    show(w.heap++os)[j]?=w.heap[j]?;rw[Array.getElem?_append_left hj]
theorem tS (n:Int)(h0:-9223372036854775808≤n)(h1:n≤9223372036854775807):(Lib.itoa n).length≤21:=by
  unfold Lib.itoa;split
  · rw[List.length_cons,Lib.decDigits_length]
    have:=iM n.natAbs (by omega);omega
  · rw[Lib.decDigits_length]
    have:=iM n.toNat (by omega);omega
structure tD (b:Nat):Prop where
  real:(FloatKind.f64.format.order b b !=some .eq)=false
  fin:vJ b=false
  nz:(FloatKind.f64.format.order b 0==some .eq)=false
  pos:(FloatKind.f64.format.order b 0==some .lt)=false
theorem aCC (b:Nat)(txt hd tl:List UInt8)(d:UInt8)(x:Int)(w:World)(T:aB w)(hF:jD b txt)(hP:kU txt [d] x hd tl)(hB:tD b)(hx:x+1 < -5) :
    Calls Tryz.prog 63 #[.float .f64 b] w fun e w'=>e=.returned (.string ⟨(d :: [101,45]++Lib.itoa (-x)).toArray⟩)∧Below w.heap.size w w':=by
  have HF:=hid hF;have HT:=hid T;have HP:=hid hP;have x1:=hP.lo;have x2:=hP.hi;have r1:=hB.real;have r3:=hB.nz;have r4:=hB.pos;have II:=fun w=>gI b false w hB.fin
  have HII:=hid II;obtain⟨s,hs⟩:∃s:ByteArray,s=⟨[d].toArray⟩:=⟨_,rfl⟩
  have hsl:s.data.toList=[d]:=by rw[hs]
  have hsz:s.size=1:=by rw[bF,hsl];rfl
  obtain⟨s1,e1,z1,c1'⟩:=vE s 1 (by omega);have c1:∀w,(Instr.slice 9 (.string s) none (some (.int .i64 1)) none).run Tryz.prog w=.ok (.string s1) w:=c1';rw[hsl]at e1
  have HS:=hid hs;have HSL:=hid hsl;have HE1:=hid e1;clear hF T hP hB II hs hsl e1 c1';go_enter Tryz.func63,Tryz.ntmps63
  go_wp2_with (go_at_call 67;((with_reducible refine(HII.out _).mono ?_);rintro e w' ⟨rfl,rfl⟩))
  refine(kL b txt [d] hd tl x _ HT.out HF.out HP.out).mono ?_;rw[←HS.out];rintro e w2 ⟨rfl,B2⟩;have HB2:=hid B2;have HT2:=hid (HT.out.below B2 (Nat.le_refl _));clear B2;go_wp2_with fail
  have hil:=tS (1-(x+1)) (by omega) (by omega);refine(xA (1-(x+1)) _ HT2.out (by omega) (by omega)).mono ?_;rintro e w3 ⟨rfl,B3⟩;have HB3:=hid (HB2.out.trans (B3.mono HB2.out.size));clear B3;go_wp2
  go_ret;refine⟨mG ?_,HB3.out⟩;simp only[lV];rw[HE1.out,show 1-(x+1)=-x by omega];simp
theorem aCD (b:Nat)(txt hd tl:List UInt8)(d:UInt8)(x:Int)(w:World)(T:aB w)(hF:jD b txt)(hP:kU txt [d] x hd tl)(hB:tD b)(hx:21<x+1) :
    Calls Tryz.prog 63 #[.float .f64 b] w fun e w'=>e=.returned (.string ⟨(d :: [101,43]++Lib.itoa x).toArray⟩)∧Below w.heap.size w w':=by
  have HF:=hid hF;have HT:=hid T;have HP:=hid hP;have x1:=hP.lo;have x2:=hP.hi;have r1:=hB.real;have r3:=hB.nz;have r4:=hB.pos;have II:=fun w=>gI b false w hB.fin
  have HII:=hid II;obtain⟨s,hs⟩:∃s:ByteArray,s=⟨[d].toArray⟩:=⟨_,rfl⟩
  have hsl:s.data.toList=[d]:=by rw[hs]
  have hsz:s.size=1:=by rw[bF,hsl];rfl
  obtain⟨s1,e1,z1,c1'⟩:=vE s 1 (by omega);have c1:∀w,(Instr.slice 9 (.string s) none (some (.int .i64 1)) none).run Tryz.prog w=.ok (.string s1) w:=c1';rw[hsl]at e1
  have HS:=hid hs;have HSL:=hid hsl;have HE1:=hid e1;clear hF T hP hB II hs hsl e1 c1';go_enter Tryz.func63,Tryz.ntmps63
  go_wp2_with (go_at_call 67;((with_reducible refine(HII.out _).mono ?_);rintro e w' ⟨rfl,rfl⟩))
  refine(kL b txt [d] hd tl x _ HT.out HF.out HP.out).mono ?_;rw[←HS.out];rintro e w2 ⟨rfl,B2⟩;have HB2:=hid B2;have HT2:=hid (HT.out.below B2 (Nat.le_refl _));clear B2;go_wp2_with fail
  have hil:=tS x (by omega) (by omega);refine(xA x _ HT2.out (by omega) (by omega)).mono ?_;rintro e w3 ⟨rfl,B3⟩;have HB3:=hid (HB2.out.trans (B3.mono HB2.out.size));clear B3;go_wp2
  go_ret;refine⟨mG ?_,HB3.out⟩;simp only[lV];rw[HE1.out];simp
theorem aBt (b k:Nat)(txt hd tl:List UInt8)(d:UInt8)(D:List UInt8)(x:Int)(w:World)(T:aB w)(hF:jD b txt)(hP:kU txt (d :: D) x hd tl)(hB:tD b)(hx:x+1 < -5)(hk:D.length=k)(k1:1≤k)(k2:k≤20) :
    Calls Tryz.prog 63 #[.float .f64 b] w fun e w'=>e=.returned (.string ⟨(d :: 46 :: D++[101,45]++Lib.itoa (-x)).toArray⟩)∧Below w.heap.size w w':=by
  have HF:=hid hF;have HT:=hid T;have HP:=hid hP;have x1:=hP.lo;have x2:=hP.hi;have r1:=hB.real;have r3:=hB.nz;have r4:=hB.pos;have II:=fun w=>gI b false w hB.fin
  have HII:=hid II;obtain⟨s,hs⟩:∃s:ByteArray,s=⟨(d :: D).toArray⟩:=⟨_,rfl⟩
  have hsl:s.data.toList=(d :: D):=by rw[hs]
  have hsz:s.size=k+1:=by rw[bF,hsl];simp[hk]
  obtain⟨s1,e1,z1,c1'⟩:=vE s 1 (by omega);have c1:∀w,(Instr.slice 9 (.string s) none (some (.int .i64 1)) none).run Tryz.prog w=.ok (.string s1) w:=c1';rw[hsl]at e1
  obtain⟨s2,e2,z2,c2'⟩:=iX s 1 (by omega);have c2:∀w,(Instr.slice 9 (.string s) (some (.int .i64 1)) none none).run Tryz.prog w=.ok (.string s2) w:=c2';rw[hsl]at e2
  have HE2:=hid e2;clear e2 c2';have HS:=hid hs;have HSL:=hid hsl;have HE1:=hid e1;clear hF T hP hB II hs hsl e1 c1';go_enter Tryz.func63,Tryz.ntmps63
  go_wp2_with (go_at_call 67;((with_reducible refine(HII.out _).mono ?_);rintro e w' ⟨rfl,rfl⟩))
  refine(kL b txt (d :: D) hd tl x _ HT.out HF.out HP.out).mono ?_;rw[←HS.out];rintro e w2 ⟨rfl,B2⟩;have HB2:=hid B2;have HT2:=hid (HT.out.below B2 (Nat.le_refl _));clear B2;go_wp2_with fail
  have hil:=tS (1-(x+1)) (by omega) (by omega);refine(xA (1-(x+1)) _ HT2.out (by omega) (by omega)).mono ?_;rintro e w3 ⟨rfl,B3⟩;have HB3:=hid (HB2.out.trans (B3.mono HB2.out.size));clear B3;go_wp2
  go_ret;refine⟨mG ?_,HB3.out⟩;simp only[lV];rw[HE1.out,HE2.out,show 1-(x+1)=-x by omega];simp
theorem aBu (b k:Nat)(txt hd tl:List UInt8)(d:UInt8)(D:List UInt8)(x:Int)(w:World)(T:aB w)(hF:jD b txt)(hP:kU txt (d :: D) x hd tl)(hB:tD b)(hx:21<x+1)(hk:D.length=k)(k1:1≤k)(k2:k≤20) :
    Calls Tryz.prog 63 #[.float .f64 b] w fun e w'=>e=.returned (.string ⟨(d :: 46 :: D++[101,43]++Lib.itoa x).toArray⟩)∧Below w.heap.size w w':=by
  have HF:=hid hF;have HT:=hid T;have HP:=hid hP;have x1:=hP.lo;have x2:=hP.hi;have r1:=hB.real;have r3:=hB.nz;have r4:=hB.pos;have II:=fun w=>gI b false w hB.fin
  have HII:=hid II;obtain⟨s,hs⟩:∃s:ByteArray,s=⟨(d :: D).toArray⟩:=⟨_,rfl⟩
  have hsl:s.data.toList=(d :: D):=by rw[hs]
  have hsz:s.size=k+1:=by rw[bF,hsl];simp[hk]
  obtain⟨s1,e1,z1,c1'⟩:=vE s 1 (by omega);have c1:∀w,(Instr.slice 9 (.string s) none (some (.int .i64 1)) none).run Tryz.prog w=.ok (.string s1) w:=c1';rw[hsl]at e1
  obtain⟨s2,e2,z2,c2'⟩:=iX s 1 (by omega);have c2:∀w,(Instr.slice 9 (.string s) (some (.int .i64 1)) none none).run Tryz.prog w=.ok (.string s2) w:=c2';rw[hsl]at e2
  have HE2:=hid e2;clear e2 c2';have HS:=hid hs;have HSL:=hid hsl;have HE1:=hid e1;clear hF T hP hB II hs hsl e1 c1';go_enter Tryz.func63,Tryz.ntmps63
  go_wp2_with (go_at_call 67;((with_reducible refine(HII.out _).mono ?_);rintro e w' ⟨rfl,rfl⟩))
  refine(kL b txt (d :: D) hd tl x _ HT.out HF.out HP.out).mono ?_;rw[←HS.out];rintro e w2 ⟨rfl,B2⟩;have HB2:=hid B2;have HT2:=hid (HT.out.below B2 (Nat.le_refl _));clear B2;go_wp2_with fail
  have hil:=tS x (by omega) (by omega);refine(xA x _ HT2.out (by omega) (by omega)).mono ?_;rintro e w3 ⟨rfl,B3⟩;have HB3:=hid (HB2.out.trans (B3.mono HB2.out.size));clear B3;go_wp2
  go_ret;refine⟨mG ?_,HB3.out⟩;simp only[lV];rw[HE1.out,HE2.out];simp
open Go.RowKit
theorem aCE (n:Nat):Lib.repeatL [48] n=List.replicate n 48:=by
  induction n with
  | zero=>rfl
  | succ n ih=>rw[Lib.repeatL,ih];rfl
theorem aAy (n:Int)(w:World)(h0:0≤n)(h1:n≤1000) :
    Calls Tryz.prog 115 #[.string { data:=#[48] },.int .i64 n] w fun e w'=>e=.returned (.string ⟨(List.replicate n.toNat (48:UInt8)).toArray⟩)∧Below w.heap.size w w':=by
  obtain⟨c,rfl⟩:∃c:Nat,n=c:=⟨n.toNat,by omega⟩
  refine (Tryz.strings_Repeat { data := #[48] } c w (by omega) (by have e : ({ data := #[48] } : ByteArray).size = 1 := rfl
                                                                   rw [e]; omega)).mono ?_
  rintro e w' ⟨rfl,h⟩;refine⟨?_,h⟩;rw[show({ data:=#[48] }:ByteArray).data.toList=[48]from rfl,aCE,Int.toNat_natCast]
theorem aEw (b:Nat)(txt hd tl D:List UInt8)(x:Int)(w:World)(T:aB w)(hF:jD b txt)(hP:kU txt D x hd tl)(hB:tD b)(hk:(D.length:Int)≤x+1)(hx:x+1≤21) :
    Calls Tryz.prog 63 #[.float .f64 b] w fun e w'=>e=.returned (.string ⟨(D++List.replicate (x+1-D.length).toNat 48).toArray⟩)∧Below w.heap.size w w':=by
  obtain⟨k,hkk⟩:∃k,k=D.length:=⟨_,rfl⟩
  rw[←hkk]at hk ⊢
  have HF:=hid hF;have HT:=hid T;have HP:=hid hP;have x1:=hP.lo;have x2:=hP.hi;have r1:=hB.real;have r3:=hB.nz;have r4:=hB.pos;have II:=fun w=>gI b false w hB.fin
  have HII:=hid II;obtain⟨s,hs⟩:∃s:ByteArray,s=⟨D.toArray⟩:=⟨_,rfl⟩
  have hsl:s.data.toList=D:=by rw[hs]
  have hsz:s.size=k:=by rw[bF,hsl,hkk]
  have HS:=hid hs;have HSL:=hid hsl;clear hF T hP hB II hs hsl hkk;go_enter Tryz.func63,Tryz.ntmps63
  go_wp2_with (go_at_call 67;((with_reducible refine(HII.out _).mono ?_);rintro e w' ⟨rfl,rfl⟩))
  refine(kL b txt D hd tl x _ HT.out HF.out HP.out).mono ?_;rw[←HS.out];rintro e w2 ⟨rfl,B2⟩;have HB2:=hid B2;clear B2;obtain⟨r,hr⟩:∃r:ByteArray,r=⟨(List.replicate (x+1-k).toNat (48:UInt8)).toArray⟩:=⟨_,rfl⟩
  have hrl:r.data.toList=List.replicate (x+1-k).toNat 48:=by rw[hr]
  have hrz:r.size≤1000:=by rw[bF,hrl,List.length_replicate];omega
  have HR:=hid hr;have HRL:=hid hrl;clear hr hrl;go_wp2_with fail
  refine(aAy (x+1-k) _ (by omega) (by omega)).mono ?_;rw[←HR.out];rintro e w3 ⟨rfl,B3⟩;have HB3:=hid (HB2.out.trans (B3.mono HB2.out.size));clear B3;go_wp2
  go_ret;refine⟨mG ?_,HB3.out⟩;simp only[lV];rw[HSL.out,HRL.out]
theorem aFL (b:Nat)(txt hd tl D:List UInt8)(x:Int)(w:World)(T:aB w)(hF:jD b txt)(hP:kU txt D x hd tl)(hB:tD b)(hk:D.length≤30)(h1:1≤D.length)(hx:x+1≤0)(hl:-5≤x+1) :
    Calls Tryz.prog 63 #[.float .f64 b] w fun e w'=>e=.returned (.string ⟨([48,46]++List.replicate (-(x+1)).toNat 48++D).toArray⟩)∧Below w.heap.size w w':=by
  obtain⟨k,hkk⟩:∃k,k=D.length:=⟨_,rfl⟩
  rw[←hkk]at hk h1
  have HF:=hid hF;have HT:=hid T;have HP:=hid hP;have x1:=hP.lo;have x2:=hP.hi;have r1:=hB.real;have r3:=hB.nz;have r4:=hB.pos;have II:=fun w=>gI b false w hB.fin
  have HII:=hid II;obtain⟨s,hs⟩:∃s:ByteArray,s=⟨D.toArray⟩:=⟨_,rfl⟩
  have hsl:s.data.toList=D:=by rw[hs]
  have hsz:s.size=k:=by rw[bF,hsl,hkk]
  have HS:=hid hs;have HSL:=hid hsl;clear hF T hP hB II hs hsl hkk;have hng:¬(k:Int)≤x+1:=by omega
  have hng2:decide ((k:Int)≤x+1)=false:=decide_eq_false hng;have hng3:decide (1≤x+1)=false:=decide_eq_false (by omega);go_enter Tryz.func63,Tryz.ntmps63
  go_wp2_with (go_at_call 67;((with_reducible refine(HII.out _).mono ?_);rintro e w' ⟨rfl,rfl⟩))
  refine(kL b txt D hd tl x _ HT.out HF.out HP.out).mono ?_;rw[←HS.out];rintro e w2 ⟨rfl,B2⟩;have HB2:=hid B2;clear B2;obtain⟨r,hr⟩:∃r:ByteArray,r=⟨(List.replicate (-(x+1)).toNat (48:UInt8)).toArray⟩:=⟨_,rfl⟩
  have hrl:r.data.toList=List.replicate (-(x+1)).toNat 48:=by rw[hr]
  have hrz:r.size≤1000:=by rw[bF,hrl,List.length_replicate];omega
  have HR:=hid hr;have HRL:=hid hrl;clear hr hrl;go_wp2_with fail
  refine(aAy (-(x+1)) _ (by omega) (by omega)).mono ?_;rw[←HR.out];rintro e w3 ⟨rfl,B3⟩;have HB3:=hid (HB2.out.trans (B3.mono HB2.out.size));clear B3;go_wp2
  go_ret;refine⟨mG ?_,HB3.out⟩;simp only[lV];rw[HSL.out,HRL.out];rfl
theorem aEv (b:Nat)(txt hd tl D:List UInt8)(x:Int)(w:World)(T:aB w)(hF:jD b txt)(hP:kU txt D x hd tl)(hB:tD b)(hk:x+1<(D.length:Int))(hl:1≤x+1)(hx:x+1≤21)(hk3:D.length≤30) :
    Calls Tryz.prog 63 #[.float .f64 b] w fun e w'=>e=.returned (.string ⟨(D.take (x+1).toNat++[46]++D.drop (x+1).toNat).toArray⟩)∧Below w.heap.size w w':=by
  obtain⟨k,hkk⟩:∃k,k=D.length:=⟨_,rfl⟩
  rw[←hkk]at hk hk3
  have HF:=hid hF;have HT:=hid T;have HP:=hid hP;have x1:=hP.lo;have x2:=hP.hi;have r1:=hB.real;have r3:=hB.nz;have r4:=hB.pos;have II:=fun w=>gI b false w hB.fin
  have HII:=hid II;obtain⟨s,hs⟩:∃s:ByteArray,s=⟨D.toArray⟩:=⟨_,rfl⟩
  have hsl:s.data.toList=D:=by rw[hs]
  have hsz:s.size=k:=by rw[bF,hsl,hkk]
  obtain⟨p,hp⟩:∃p:Nat,x+1=p:=⟨(x+1).toNat,by omega⟩
  obtain⟨s1,e1,z1,c1'⟩:=vE s p (by omega);have c1:∀w,(Instr.slice 9 (.string s) none (some (.int .i64 (x+1))) none).run Tryz.prog w=.ok (.string s1) w:=by rw[hp];exact c1'
  rw[hsl]at e1
  obtain⟨s2,e2,z2,c2'⟩:=iX s p (by omega);have c2:∀w,(Instr.slice 9 (.string s) (some (.int .i64 (x+1))) none none).run Tryz.prog w=.ok (.string s2) w:=by rw[hp];exact c2'
  rw[hsl]at e2
  have b1:s1.size≤30:=by omega
  have b2:s2.size≤30:=by omega
  have HE1:=hid e1;have HE2:=hid e2;have HPP:=hid hp;clear e1 e2 c1' c2' hp;have HS:=hid hs;have HSL:=hid hsl;clear hF T hP hB II hs hsl hkk;go_enter Tryz.func63,Tryz.ntmps63
  go_wp2_with (go_at_call 67;((with_reducible refine(HII.out _).mono ?_);rintro e w' ⟨rfl,rfl⟩))
  refine(kL b txt D hd tl x _ HT.out HF.out HP.out).mono ?_;rw[←HS.out];rintro e w2 ⟨rfl,B2⟩;have HB2:=hid B2;clear B2;go_wp2_with fail
  go_quiet (fail)
  go_wp2
  go_ret;refine⟨mG ?_,HB2.out.trans ⟨rfl,rfl,rfl,Nat.le_refl _,fun _ _=>rfl⟩⟩;simp only[lV];rw[HE1.out,HE2.out,HPP.out,Int.toNat_natCast]
theorem uC (b:Nat)(w:World)(h1:(FloatKind.f64.format.order b b !=some .eq)=false)(h2:vJ b=false)(h3:(FloatKind.f64.format.order b 0==some .eq)=true) :
    Calls Tryz.prog 63 #[.float .f64 b] w fun e w'=>e=.returned (.string { data:=#[48] })∧w=w':=by
  have II:=fun w=>gI b false w h2
  have HII:=hid II;clear II h2;go_enter Tryz.func63,Tryz.ntmps63
  go_wp2_with (go_at_call 67;((with_reducible refine(HII.out _).mono ?_);rintro e w' ⟨rfl,rfl⟩))
  go_ret;exact⟨rfl,rfl⟩
theorem aDi:FloatKind.f64.format.fractionBits=52:=by kernel_rfl
theorem aAf:FloatKind.f64.format.binade=4503599627370496:=by kernel_rfl
theorem aEV:FloatKind.f64.format.infRung=2047*4503599627370496:=by kernel_rfl
theorem aDj:FloatKind.f64.format.signWeight=9223372036854775808:=by kernel_rfl
theorem aKq (b:Nat)(h:b<9223372036854775808):aAY b=b:=by
  unfold aAY;have e:bits .andNot .u64 (b:Int) 9223372036854775808=(b:Int):=by
    show IntKind.u64.wrap ((BitVec.ofInt 64 (b:Int) &&& ~~~BitVec.ofInt 64 9223372036854775808).toNat:Int)=_;have p63:(2:Nat)^63=9223372036854775808:=by decide
    rw[BitVec.toNat_and,ofInt_u64 b (by omega),show(~~~BitVec.ofInt 64 9223372036854775808).toNat=2^63-1 by decide,Nat.and_two_pow_sub_one_eq_mod,Nat.mod_eq_of_lt (by omega),dQ];omega
  rw[e,Int.toNat_natCast]
open Go.RowKit
open Go.RowKit
open Go.RowKit
def mR (v lo hi:Int):Value:=if v<lo∨hi<v then .tuple #[.int .i64 0,.bool false]else .tuple #[.int .i64 v,.bool true]
structure aEO (s:ByteArray) (v:Int):Prop where
  ne:1≤s.size
  le:s.size≤9
  dig:digs s.data.toList=s.size
  head:s.size=1∨∃h:0<s.size,((s[0].toNat:Int)==48)=false
  val:Lib.atoi s.data.toList=some v
  lo:0≤v
  hi:v≤999999999
theorem aGi (s:ByteArray)(v lo hi:Int)(w:World)(W:aEO s v) :
    Calls Tryz.prog 62 #[.string s,.int .i64 lo,.int .i64 hi] w fun e w'=>e=.returned (mR v lo hi)∧Below w.heap.size w w':=by
  obtain⟨n,hn⟩:∃n,s.size=n:=⟨_,rfl⟩
  have D:=fun w=>dK s n w (by unfold maxLen;have:=W.le;omega) (by rw[W.dig,hn])
  have hs:s=⟨s.data.toList.toArray⟩:=rfl;have AT:=fun w=>aER s.data.toList v w W.val (by rw[←bF];have:=W.le;omega)
  rw[←hs]at AT
  have n1:=W.ne;have n9:=W.le;rw[hn]at n1 n9
  have hd:=W.head;have hne:((n:Int) !=s.size)=false:=bne_eq_false_iff_eq.2 (by omega);have v1:=W.lo;have v2:=W.hi;have HD:=hid D;have HAT:=hid AT;have hz:1≤s.size:=by omega
  have hz9:s.size≤9:=by omega
  have HN:=hid hn;clear D AT W hs;rcases hd with hd|⟨h0,hd⟩
  · have hnl:¬(1:Int)<n:=by omega
    have HH:=hid hd;clear hd hn;by_cases c1:v<lo
    · go_enter Tryz.func62,Tryz.ntmps62
      go_wp2_with (first
        | (go_at_call 112;((with_reducible refine(HD.out _).mono ?_);rintro e w' ⟨rfl,rfl⟩))
        | (go_at_call 113;((with_reducible refine(HAT.out _).mono ?_);rintro e w' ⟨rfl,B1⟩;have HB:=hid B1;clear B1)))
      go_ret2;exact⟨by unfold mR;rw[if_pos (.inl c1)];rfl,HB.out⟩
    · by_cases c2:hi<v
      · go_enter Tryz.func62,Tryz.ntmps62
        go_wp2_with (first
          | (go_at_call 112;((with_reducible refine(HD.out _).mono ?_);rintro e w' ⟨rfl,rfl⟩))
          | (go_at_call 113;((with_reducible refine(HAT.out _).mono ?_);rintro e w' ⟨rfl,B1⟩;have HB:=hid B1;clear B1)))
        go_ret2;exact⟨by unfold mR;rw[if_pos (.inr c2)];rfl,HB.out⟩
      · go_enter Tryz.func62,Tryz.ntmps62
        go_wp2_with (first
          | (go_at_call 112;((with_reducible refine(HD.out _).mono ?_);rintro e w' ⟨rfl,rfl⟩))
          | (go_at_call 113;((with_reducible refine(HAT.out _).mono ?_);rintro e w' ⟨rfl,B1⟩;have HB:=hid B1;clear B1)))
        go_ret2;exact⟨by unfold mR;rw[if_neg (by omega)];rfl,HB.out⟩
  · clear hn
    by_cases c1:v<lo
    · go_enter Tryz.func62,Tryz.ntmps62
      go_wp2_with (first
        | (go_at_call 112;((with_reducible refine(HD.out _).mono ?_);rintro e w' ⟨rfl,rfl⟩))
        | (go_at_call 113;((with_reducible refine(HAT.out _).mono ?_);rintro e w' ⟨rfl,B1⟩;have HB:=hid B1;clear B1)))
      all_goals go_ret2
      all_goals exact⟨by unfold mR;rw[if_pos (.inl c1)];rfl,HB.out⟩
    · by_cases c2:hi<v
      · go_enter Tryz.func62,Tryz.ntmps62
        go_wp2_with (first
          | (go_at_call 112;((with_reducible refine(HD.out _).mono ?_);rintro e w' ⟨rfl,rfl⟩))
          | (go_at_call 113;((with_reducible refine(HAT.out _).mono ?_);rintro e w' ⟨rfl,B1⟩;have HB:=hid B1;clear B1)))
        all_goals go_ret2
        all_goals exact⟨by unfold mR;rw[if_pos (.inr c2)];rfl,HB.out⟩
      · go_enter Tryz.func62,Tryz.ntmps62
        go_wp2_with (first
          | (go_at_call 112;((with_reducible refine(HD.out _).mono ?_);rintro e w' ⟨rfl,rfl⟩))
          | (go_at_call 113;((with_reducible refine(HAT.out _).mono ?_);rintro e w' ⟨rfl,B1⟩;have HB:=hid B1;clear B1)))
        all_goals go_ret2
        all_goals exact⟨by unfold mR;rw[if_neg (by omega)];rfl,HB.out⟩
open Go.RowKit
open Go.RowKit
theorem rM (s:ByteArray)(lo hi:Int)(w:World)(hm:s.size≤maxLen)(n:Nat)(hn:digs s.data.toList=n)
    (h:n<1∨9<n∨((1≤n∧n≤9)∧n≠s.size)∨((1<n∧n≤9)∧n=s.size∧∃h:0<s.size,s[0].toNat=48)) :
    Calls Tryz.prog 62 #[.string s,.int .i64 lo,.int .i64 hi] w fun e w'=>e=.returned (.tuple #[.int .i64 0,.bool false])∧w=w':=by
  have D:=fun w=>dK s n w hm hn
  have HD:=hid D;clear D hn;rcases h with h|h|⟨⟨h1,h9⟩,h⟩|⟨⟨h1,h9⟩,h,h0,h48⟩
  · as_aux_lemma =>
      go_enter Tryz.func62,Tryz.ntmps62
      go_wp2_with (go_at_call 112;(with_reducible refine(HD.out _).mono ?_);rintro e w' ⟨rfl,rfl⟩)
      go_ret2;exact⟨rfl,rfl⟩
  · have h':¬n<1:=by omega
    as_aux_lemma =>
      go_enter Tryz.func62,Tryz.ntmps62
      go_wp2_with (go_at_call 112;(with_reducible refine(HD.out _).mono ?_);rintro e w' ⟨rfl,rfl⟩)
      go_ret2;exact⟨rfl,rfl⟩
  · have hne:((n:Int) !=s.size)=true:=bne_iff_ne.2 (by omega)
    have HH:=hid h;clear h;as_aux_lemma =>
      go_enter Tryz.func62,Tryz.ntmps62
      go_wp2_with (go_at_call 112;(with_reducible refine(HD.out _).mono ?_);rintro e w' ⟨rfl,rfl⟩)
      go_ret2;exact⟨rfl,rfl⟩
  · have hne:((n:Int) !=s.size)=false:=bne_eq_false_iff_eq.2 (by omega)
    have e0:((s[0].toNat:Int)==48)=true:=by simp[h48]
    have HH:=hid h;clear h;as_aux_lemma =>
      go_enter Tryz.func62,Tryz.ntmps62
      go_wp2_with (go_at_call 112;(with_reducible refine(HD.out _).mono ?_);rintro e w' ⟨rfl,rfl⟩)
      go_ret2;exact⟨rfl,rfl⟩
structure eY (s:ByteArray) (lo hi:Int) (n:Int) (b:Bool):Prop where
  one:∀w,Calls Tryz.prog 62 #[.string s,.int .i64 lo,.int .i64 hi] w fun e w'=>e=.returned (.tuple #[.int .i64 n,.bool b])∧Below w.heap.size w w'
  dg:b=true→digs s.data.toList=s.size∧s.size≤9
  two:∀w,Calls Tryz.prog 94 #[.string s,.int .i64 lo,.int .i64 hi] w fun e w'=>e=.returned (.tuple #[.int .i64 n,.bool b])∧w=w'
theorem oF {f:Nat}{args:Array Value}{w:World}{v:Value}(h:Calls Tryz.prog f args w fun e w'=>e=.returned v∧w=w') :
    Calls Tryz.prog f args w fun e w'=>e=.returned v∧Below w.heap.size w w' :=
  h.mono fun _ _ ⟨a,b⟩=>⟨a,b▸Below.refl _ _⟩
theorem aGh (s:ByteArray)(h1:1≤s.size)(h9:s.size≤9)(hd:digs s.data.toList=s.size)(h0:s.size=1∨∃h:0<s.size,((s[0].toNat:Int)==48)=false) :
    ∃m:Nat,Lib.decFrom 0 s.data.toList=some m∧aEO s m:=by
  obtain⟨m,h2,h3⟩:=wL s.data.toList s.size (by omega);rw[List.take_of_length_le (by simp)]at h2
  have hp:10^s.size≤10^9:=Nat.pow_le_pow_right (by omega) h9;have p9:(10:Nat)^9=1000000000:=by decide
  have hm9:m≤999999999:=by
    generalize 10^s.size=t at h3 hp;omega
  refine⟨m,h2,⟨h1,h9,hd,h0,?_,by omega,by omega⟩⟩;obtain⟨c,l,e⟩:∃c l,s.data.toList=c :: l:=by
    cases e:s.data.toList with
    | nil => have : s.data.toList.length = 0 := by rw [e]; rfl
             have e2 : s.data.toList.length = s.size := by simp
             omega
    | cons c l=>exact⟨c,l,rfl⟩
  have hc:aQ c=true:=by
    have:=qR s.data.toList 0 (by rw[e];simp) (by omega);simpa [e]using this
  obtain⟨c1,c2⟩:=pH c hc;rw[e]at h2 ⊢
  unfold Lib.atoi;have n1:(c==45)=false:=by
    rw[beq_eq_false_iff_ne];rintro rfl;revert c1;decide
  have n2:(c==43)=false:=by
    rw[beq_eq_false_iff_ne];rintro rfl;revert c1;decide
  simp only[n1,n2,Bool.false_eq_true,if_false];unfold Lib.decNat;rw[if_neg (by simp),h2];rfl
theorem aJ0 (s:ByteArray)(lo hi:Int)(hm:s.size≤maxLen):∃n b,eY s lo hi n b:=by
  have hle:digs s.data.toList≤s.size:=by have:=sF s.data.toList;simpa using this
  by_cases h0:s.size=0
  · exact⟨0,false,fun w=>oF (rM s lo hi w hm _ rfl (.inl (by omega))),(fun h=>by cases h),fun w=>vW s lo hi w (.inl h0)⟩
  · by_cases h9:9<s.size
    · refine⟨0,false,fun w=>oF (rM s lo hi w hm _ rfl ?_),(fun h=>by cases h),fun w=>vW s lo hi w (.inr h9)⟩
      by_cases c1:digs s.data.toList<1
      · exact .inl c1
      · by_cases c2:9<digs s.data.toList
        · exact .inr (.inl c2)
        · exact .inr (.inr (.inl ⟨⟨by omega,by omega⟩,by omega⟩))
    · by_cases hn:1<s.size∧(s[0]'(by omega)).toNat=48
      · refine⟨0,false,fun w=>oF (rM s lo hi w hm _ rfl ?_),(fun h=>by cases h),fun w=>aAJ s lo hi w hn.1 (by omega) hn.2⟩
        by_cases c1:digs s.data.toList<1
        · exact .inl c1
        · by_cases c2:digs s.data.toList=s.size
          · exact .inr (.inr (.inr ⟨⟨by omega,by omega⟩,c2,by omega,hn.2⟩))
          · exact .inr (.inr (.inl ⟨⟨by omega,by omega⟩,c2⟩))
      · have hh:s.size=1∨∃h:0<s.size,((s[0].toNat:Int)==48)=false:=by
          by_cases c:s.size=1
          · exact .inl c
          · refine .inr ⟨by omega,beq_eq_false_iff_ne.2 fun e=>hn ⟨by omega,by omega⟩⟩
        have R:=fun w=>aAI s lo hi w (by omega) (by omega) hh
        by_cases hd:digs s.data.toList=s.size
        · obtain⟨m,h2,h3⟩:=aGh s (by omega) (by omega) hd hh
          have S:=fun w=>aGi s m lo hi w h3
          rw[if_pos hd,h2,show(some m).get! = m from rfl]at R
          by_cases hb:(m:Int)<lo∨hi<(m:Int)
          · refine⟨0,false,fun w=>?_,(fun h=>by cases h),fun w=>?_⟩
            · have:=S w
              unfold mR at this;rwa[if_pos hb]at this
            · have:=R w
              unfold qH at this;rwa[if_pos hb]at this
          · refine⟨m,true,fun w=>?_,(fun _=>⟨hd,by omega⟩),fun w=>?_⟩
            · have:=S w
              unfold mR at this;rwa[if_neg hb]at this
            · have:=R w
              unfold qH at this;rwa[if_neg hb]at this
        · rw[if_neg hd]at R
          refine⟨0,false,fun w=>oF (rM s lo hi w hm _ rfl ?_),(fun h=>by cases h),R⟩;by_cases c1:digs s.data.toList<1
          · exact .inl c1
          · exact .inr (.inr (.inl ⟨⟨by omega,by omega⟩,hd⟩))
