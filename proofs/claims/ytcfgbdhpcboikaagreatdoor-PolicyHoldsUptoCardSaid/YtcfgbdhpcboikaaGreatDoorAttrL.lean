/-
policy.Attrs as a plain function: which attributes come out, in which order. No program in sight.
-/
import Derived.Shelf.SlSortCmp.Insertion
import Derived.Test.YtcfgbdhpcboikaaGreatDoorTextLaw
import Derived.Test.YtcfgbdhpcboikaaGreatDoorNodes
import Derived.Test.YtcfgbdhpcboikaaGreatDoorShelf
import Derived.Test.YtcfgbdhpcboikaaGreatDoorKinds
import Derived.Deep.MidRow
namespace Go.Proofs.YtcfgbdhpcboikaaGreatDoor
set_option maxRecDepth 100000
open Go.Sort Go.Lib
theorem qY (a b:UInt8)(x y:List UInt8):compareBytes (a :: x) (b :: y)=if a.toNat<b.toNat then -1 else if b.toNat<a.toNat then 1 else compareBytes x y:=by
 conv=>lhs;unfold compareBytes
 simp only[UInt8.lt_iff_toNat_lt]
theorem aGm:∀a:List UInt8,compareBytes a a=0:=by
 intro a;induction a with
 | nil=>rfl
 | cons c a ih=>rw[qY,if_neg (by omega),if_neg (by omega),ih]
theorem nE:∀a b:List UInt8,compareBytes b a=- compareBytes a b:=by
 intro a;induction a with
 | nil=>intro b;cases b<;>rfl
 | cons c a ih =>
  intro b;cases b with
  | nil=>rfl
  | cons d b =>
   rw[qY,qY];by_cases h1:c.toNat<d.toNat
   ·rw[if_pos h1,if_neg (by omega),if_pos h1];rfl
   ·by_cases h2:d.toNat<c.toNat
    ·rw[if_pos h2,if_neg h1,if_pos h2]
    ·rw[if_neg h2,if_neg h1,if_neg h1,if_neg h2,ih]
theorem aA8:∀a b:List UInt8,compareBytes a b=0→a=b:=by
 intro a;induction a with
 | nil=>intro b h;cases b with
  | nil=>rfl
  | cons d b=>simp[compareBytes]at h
 | cons c a ih =>
  intro b h;cases b with
  | nil=>simp[compareBytes]at h
  | cons d b =>
   rw[qY]at h
   split at h
   ·omega
   ·split at h
    ·omega
    ·rw[ih b h,UInt8.toNat_inj.1 (by omega:c.toNat=d.toNat)]
theorem aAo:∀a b c:List UInt8,compareBytes a b<0→compareBytes b c<0→compareBytes a c<0:=by
 intro a;induction a with
 | nil =>
  intro b c h1 h2;cases c with
  | nil =>
   rw[nE [] b]at h2
   omega
  | cons d c=>simp[compareBytes]
 | cons x a ih =>
  intro b c h1 h2;cases b with
  | nil=>simp[compareBytes]at h1
  | cons y b =>
   cases c with
   | nil=>simp[compareBytes]at h2
   | cons z c =>
    rw[qY]at h1 h2 ⊢
    by_cases p1:x.toNat<y.toNat
    ·by_cases p2:z.toNat<y.toNat
     ·rw[if_neg (by omega),if_pos p2]at h2;omega
     ·rw[if_pos (by omega)];omega
    ·rw[if_neg p1]at h1
     by_cases p3:y.toNat<x.toNat
     ·rw[if_pos p3]at h1;omega
     ·rw[if_neg p3]at h1
      by_cases p4:y.toNat<z.toNat
      ·rw[if_pos (by omega)];omega
      ·rw[if_neg p4]at h2
       by_cases p5:z.toNat<y.toNat
       ·rw[if_pos p5]at h2;omega
       ·rw[if_neg p5]at h2
        rw[if_neg (by omega),if_neg (by omega)];exact ih b c h1 h2
abbrev AT:=ByteArray × ByteArray
def nX (x y:AT):Int:=compareBytes x.1.data.toList y.1.data.toList
theorem aLb:SWO (ltOf nX) where
 irrefl x:=by unfold ltOf nX;rw[aGm];rfl
 trans x y z h1 h2:=by
  unfold ltOf nX at *
  simp only[decide_eq_true_eq]at *
  exact aAo _ _ _ h1 h2
 ntrans x y z h1 h2:=by
  unfold ltOf nX at *
  simp only[decide_eq_false_iff_not,Int.not_lt]at *
  rcases Int.lt_or_eq_of_le h1 with h1|h1
  ·rcases Int.lt_or_eq_of_le h2 with h2|h2
   ·have:=aAo z.1.data.toList y.1.data.toList x.1.data.toList (by rw[nE];omega) (by rw[nE];omega);rw[nE]at this
    omega
   ·rw[←aA8 _ _ h2.symm];omega
  ·rw[aA8 _ _ h1.symm];exact h2
def aX (V:ByteArray→ByteArray→Option ByteArray):List ByteArray→List AT→List AT
 | _,[]=>[]
 | sn,x :: l=>if containsS sn x.1=true then aX V sn l else (match V x.1 x.2 with|some t=>[(x.1,t)]|none=>[])++aX V (sn++[x.1]) l
def tX (r:List AT):Prop:=r.Pairwise fun x y=>nX x y<0
def kM (V:ByteArray→ByteArray→Option ByteArray)(l r:List AT):Prop:=r.Perm (aX V [] l)∧tX r
theorem aDz:∀(a b:List AT),tX a→tX b→a.Perm b→a=b:=by
 intro a;induction a with
 | nil=>intro b _ _ h;exact(List.Perm.nil_eq h)
 | cons x a ih =>
  intro b ha hb h;cases b with
  | nil=>exact absurd h.length_eq (by simp)
  | cons y b =>
   have ha':=List.pairwise_cons.1 ha;have hb':=List.pairwise_cons.1 hb;have e:x=y:=by
    have hx:x∈y :: b:=h.mem_iff.1 (by simp);have hy:y∈x :: a:=h.mem_iff.2 (by simp);rcases List.mem_cons.1 hx with hx|hx
    ·exact hx
    ·rcases List.mem_cons.1 hy with hy|hy
     ·exact hy.symm
     ·have h1:=hb'.1 x hx;have h2:=ha'.1 y hy;unfold nX at h1 h2;rw[nE]at h1
      omega
   subst e;rw[ih b ha'.2 hb'.2 (List.perm_cons x |>.1 h)]
theorem wT {V:ByteArray→ByteArray→Option ByteArray}{l a b:List AT}(h1:kM V l a)(h2:kM V l b):a=b :=
 aDz a b h1.2 h2.2 (h1.1.trans h2.1.symm)
theorem aIw (V:ByteArray→ByteArray→Option ByteArray):∀(l:List AT) (sn:List ByteArray),∀x∈aX V sn l,x.1∉sn:=by
 intro l;induction l with
 | nil=>intro sn x h;simp[aX]at h
 | cons y l ih =>
  intro sn x h;unfold aX at h;split at h
  ·exact ih sn x h
  ·rename_i hn;rcases List.mem_append.1 h with h|h
   ·cases hv:V y.1 y.2 with
    | none=>rw[hv]at h;simp at h
    | some t =>
     rw[hv]at h
     simp only[List.mem_singleton]at h;subst h;exact fun hm=>hn ((containsS_iff _ _).2 hm)
   ·exact fun hm=>ih _ x h (by simp[hm])
theorem aFw (V:ByteArray→ByteArray→Option ByteArray):∀(l:List AT) (sn:List ByteArray),(aX V sn l).Pairwise fun x y=>x.1≠y.1:=by
 intro l;induction l with
 | nil=>intro sn;exact List.Pairwise.nil
 | cons y l ih =>
  intro sn;unfold aX;split
  ·exact ih sn
  ·cases hv:V y.1 y.2 with
   | none=>exact ih _
   | some t =>
    refine List.pairwise_cons.2 ⟨fun x hx=>?_,ih _⟩;have:=aIw V l _ x hx;simp only[List.mem_append,List.mem_singleton,not_or]at this;exact fun e=>this.2 e.symm
theorem aCF (V:ByteArray→ByteArray→Option ByteArray):∀(l:List AT) (sn:List ByteArray),(aX V sn l).length≤l.length:=by
 intro l;induction l with
 | nil=>intro sn;exact Nat.le_refl _
 | cons y l ih =>
  intro sn;unfold aX;split
  ·have:=ih sn;simp;omega
  ·have:=ih (sn++[y.1]);cases V y.1 y.2<;>simp<;>omega
theorem aG2 (V:ByteArray→ByteArray→Option ByteArray):∀(l:List AT) (sn:List ByteArray),∀x∈aX V sn l,∃v,(x.1,v)∈l∧V x.1 v=some x.2:=by
 intro l;induction l with
 | nil=>intro sn x h;simp[aX]at h
 | cons y l ih =>
  intro sn x h;unfold aX at h;split at h
  ·obtain⟨v,h1,h2⟩:=ih sn x h;exact⟨v,by simp[h1],h2⟩
  ·rcases List.mem_append.1 h with h|h
   ·cases hv:V y.1 y.2 with
    | none=>rw[hv]at h;simp at h
    | some t =>
     rw[hv]at h
     simp only[List.mem_singleton]at h;subst h;exact⟨y.2,by simp,hv⟩
   ·obtain⟨v,h1,h2⟩:=ih _ x h;exact⟨v,by simp[h1],h2⟩
theorem aJ5 {d:Array AT}(hs:SortedIn (ltOf nX) 0 d.size d)(hn:d.toList.Pairwise fun x y=>x.1≠y.1):tX d.toList:=by
 unfold tX;rw[List.pairwise_iff_getElem]at hn ⊢
 intro i j hi hj hij;have h1:=hn i j hi hj hij;have hi':i<d.size:=by simpa using hi
 have hj':j<d.size:=by simpa using hj
 have h2:=hs i j (Nat.zero_le _) hij hj';unfold ltOf at h2;simp only[decide_eq_false_iff_not,Int.not_lt]at h2;rw[getElem!_pos d j hj',getElem!_pos d i hi']at h2
 have e1:d.toList[i]=d[i]:=by simp
 have e2:d.toList[j]=d[j]:=by simp
 rw[e1,e2]at h1 ⊢
 unfold nX at h2 ⊢;rw[nE]at h2
 rcases Int.lt_or_eq_of_le (by omega:compareBytes (d[i]).1.data.toList (d[j]).1.data.toList≤0)with h|h
 ·exact h
 ·exfalso;apply h1;have:=aA8 _ _ h;cases hx:(d[i]).1;cases hy:(d[j]).1;rw[hx,hy]at this
  simpa using this
open Go.RowKit
def kG (x:AT):List Value:=[.string x.1,.string x.2]
def cL (l:List AT):List Value:=l.flatMap kG
theorem iJ (l:List AT):(cL l).length=l.length*2:=by
 induction l with
 | nil=>rfl
 | cons x l ih=>unfold cL at *;rw[List.flatMap_cons,List.length_append,ih];simp[kG];omega
theorem aAw:∀(l:List AT) (j:Nat) (h:j<l.length),(cL l)[j*2]?=some (.string (l[j]).1)∧(cL l)[j*2+1]?=some (.string (l[j]).2):=by
 intro l;induction l with
 | nil=>intro j h;simp at h
 | cons x l ih =>
  intro j h;cases j with
  | zero=>exact⟨rfl,rfl⟩
  | succ j =>
   have:=ih j (by simpa using h);rw[show(j+1)*2=j*2+2 by omega,show j*2+2+1=(j*2+1)+2 by omega];unfold cL at *
   rw[List.flatMap_cons];exact this
theorem sL (a b:List AT):cL (a++b)=cL a++cL b:=by unfold cL;rw[List.flatMap_append]
theorem aT.attrs {B:Nat}{v:Value}{l:List AT}{W0 w:World}(h:aT B 39 2 v l.length (cL l) W0 w):eI w v l:=by
 obtain⟨a,c,e,hc⟩:=h.vec;refine⟨a,c,e,fun j hj=>?_⟩;obtain⟨h1,h2⟩:=aAw l j hj;obtain⟨g,off,ha,k1⟩:=hc _ _ h1;obtain⟨g',off',ha',k2⟩:=hc _ _ h2;rw[ha]at ha'
 cases ha';exact⟨g,off,ha,k1,by rw[Nat.add_assoc];exact k2⟩
theorem eI.get {w:World}{v:Value}{l:List AT}(h:eI w v l)(j:Nat)(hj:j<l.length):∃g off c,v=.slice (some ⟨g,off,none⟩) l.length c∧w.cell? ⟨g,off+j*2,none⟩=some (.string (l[j]).1)∧w.cell? ⟨g,off+j*2+1,none⟩=some (.string (l[j]).2):=by
 obtain⟨a,c,e,hc⟩:=h;obtain⟨g,off,ha,h1,h2⟩:=hc j hj;exact⟨g,off,c,by rw[e,ha],h1,h2⟩
def tR (s:ByteArray):Value:=.string s
theorem rJ (v:Value)(zs:List ByteArray)(x:ByteArray)(w:World)(hn:zs.length≤1000000000)(hV:jN w v zs.length (zs.map tR))(b:Bool)(hb:Lib.containsS zs x=b) :
  Calls Tryz.prog 85 #[v,.string x] w fun e w'=>e=.returned (.bool b)∧w=w':=by
 obtain⟨a,c,rfl,hc⟩:=hV;cases zs with
 | nil =>
  refine(Tryz.slices_Contains_string_empty a c x w).mono ?_;rintro e w' ⟨rfl,rfl⟩;exact⟨by rw[←hb];rfl,rfl⟩
 | cons z zs =>
  obtain⟨g,off,rfl,_⟩:=hc 0 (tR z) (by simp);refine(Tryz.slices_Contains_string g off (z :: zs).length c (z :: zs) x w (Nat.le_refl _) (by omega) ?_).mono ?_
  ·intro j hj;obtain⟨g',off',hg,hcell⟩:=hc j (tR ((z :: zs)[j])) (by rw[List.getElem?_map,List.getElem?_eq_getElem hj];rfl);cases hg;rw[hcell];simp[tR,List.getD_eq_getElem?_getD,List.getElem?_eq_getElem hj]
  ·rintro e w' ⟨rfl,rfl⟩;exact⟨by rw[List.take_length,←hb],rfl⟩
theorem Tryz.info39:(Tryz.prog.info? 39).map (fun i=>(i.zero,i.size,i.bytes))=some (some (.agg #[.string ⟨#[]⟩,.string ⟨#[]⟩]),2,32):=by kernel_rfl
open Go.RowKit
section
variable {P:Program} (T E:TypeId) (ht:P.underlying T=some (.slice E)) (hs:(P.info? E).map (·.size)=some 1) (w:World) (a:Option Addr) (n c l h:Nat)
include ht hs
theorem aKb (h1:h≤c):(Instr.slice T (.slice a n c) none (some (.int .i64 h)) none).run P w=.ok (.slice a h c) w:=by
 cases hq:P.info? E with
 | none=>simp[hq]at hs
 | some i =>
  simp[Instr.slice,run_underlying ht,Instr.sliceBounds,run_sliceBound,sizeOf,typeInfo,hq,h1,Addr.add]
theorem vU (h1:l≤h)(h2:h≤c):(Instr.slice T (.slice a n c) (some (.int .i64 l)) (some (.int .i64 h)) none).run P w=.ok (.slice (if c=l then a else a.map (·.add l)) (h-l) (c-l)) w:=by
 cases hq:P.info? E with
 | none=>simp[hq]at hs
 | some i =>
  have hi:i.size=1:=by simpa [hq]using hs
  simp[Instr.slice,run_underlying ht,Instr.sliceBounds,run_sliceBound,sizeOf,typeInfo,hq,hi,h1,h2]
end
theorem gW.empty (w:World)(base:Nat)(E:TypeId)(h:base≤w.heap.size):gW (w.alloc (.cells #[] E)) base E (some ⟨w.heap.size,0,none⟩) 0 [] :=
 World.ownsRow_made w #[] 0 h (by unfold maxLen;omega) rfl
theorem IsB.same {w w':World}{a:Option Addr}{bs:List UInt8}(h:IsB w a bs)(hh:w'.heap=w.heap):IsB w' a bs:=by
 intro j b hb;obtain⟨x,hx,hc⟩:=h j b hb;exact⟨x,hx,by unfold World.cell? at *;rw[hh];exact hc⟩
open PU8
theorem aKw (l:List UInt8)(c:UInt8):(Lib.trimB l c).Sublist l:=by
 unfold Lib.trimB Lib.trimLeftB Lib.trimRightB;refine(List.dropWhile_sublist _).trans ?_;have:=(List.dropWhile_sublist (fun x=>x==c) (l:=l.reverse)).reverse;rwa[List.reverse_reverse]at this
theorem aLO (l:List UInt8):(cM l).Sublist (cT l):=by
 unfold cM;refine(aKw _ _).trans ?_;unfold fD;exact(List.filter_sublist).trans List.filter_sublist
open Go.RowKit
def gE (v:ByteArray):ByteArray:=⟨(cT v.data.toList).toArray⟩
def lP (v:ByteArray):ByteArray:=⟨(cM v.data.toList).toArray⟩
theorem fI {a b:ByteArray}(h:a.data.toList=b.data.toList):a=b:=by
 cases a;cases b;simpa using h
open Go.RowKit PU8
theorem aOB (c:Nat)(h:c<128):PU8.size c=(1,c):=by unfold PU8.size;rw[if_pos h]
theorem aOA (c:Nat)(h:128≤c)(h2:c<192):PU8.size c=(0,0):=by unfold PU8.size;rw[if_neg (by omega),if_neg (by omega),if_neg (by omega),if_neg (by omega)]
theorem aOC (c:Nat)(h:192≤c)(h2:c<224):PU8.size c=(2,c-192):=by unfold PU8.size;rw[if_neg (by omega),if_pos (by omega)]
theorem aOD (c:Nat)(h:224≤c)(h2:c<240):PU8.size c=(3,c-224):=by unfold PU8.size;rw[if_neg (by omega),if_neg (by omega),if_pos (by omega)]
theorem aOE (c:Nat)(h:240≤c)(h2:c<248):PU8.size c=(4,c-240):=by unfold PU8.size;rw[if_neg (by omega),if_neg (by omega),if_neg (by omega),if_pos (by omega)]
theorem aOF (c:Nat)(h:248≤c):PU8.size c=(0,0):=by unfold PU8.size;rw[if_neg (by omega),if_neg (by omega),if_neg (by omega),if_neg (by omega)]
theorem uN {a b c d:Int}(h:a=c)(h2:b=d):Ending.returned (.tuple #[.int .i64 a,.int .i64 b])=.returned (.tuple #[.int .i64 c,.int .i64 d]):=by rw[h,h2]
theorem aP4 {a b:Bool}(h:a=b):Ending.returned (.bool a)=.returned (.bool b):=by rw[h]
theorem aOq {a b:Int}(h:a=b):Ending.returned (.int .i64 a)=.returned (.int .i64 b):=by rw[h]
theorem sT (c:UInt8)(n v:Nat)(w:World)(hs:Hid (PU8.size c.toNat=(n,v))) :
  Calls Tryz.prog 180 #[.int .u8 c.toNat] w fun e w'=>e=.returned (.tuple #[.int .i64 n,.int .i64 v])∧w=w':=by
 have hc:c.toNat<256:=c.toNat_lt;generalize c.toNat=c at hs hc;have hcases:c<128∨(128≤c∧c<192)∨(192≤c∧c<224)∨(224≤c∧c<240)∨(240≤c∧c<248)∨248≤c:=by omega
 rcases hcases with h|⟨h,h2⟩|⟨h,h2⟩|⟨h,h2⟩|⟨h,h2⟩|h
 ·have hb:=aOB c h;rw[hs.out]at hb
  obtain⟨rfl,rfl⟩:=Prod.mk.inj hb;clear hb;go_enter Tryz.func180,Tryz.ntmps180
  go_wp2
  go_ret2;exact⟨uN (by omega) (by omega),rfl⟩
 ·have hb:=aOA c h h2;rw[hs.out]at hb
  obtain⟨rfl,rfl⟩:=Prod.mk.inj hb;clear hb;go_enter Tryz.func180,Tryz.ntmps180
  go_wp2
  go_ret2;exact⟨uN (by omega) (by omega),rfl⟩
 ·have hb:=aOC c h h2;rw[hs.out]at hb
  obtain⟨rfl,rfl⟩:=Prod.mk.inj hb;clear hb;go_enter Tryz.func180,Tryz.ntmps180
  go_wp2
  go_ret2;exact⟨uN (by omega) (by omega),rfl⟩
 ·have hb:=aOD c h h2;rw[hs.out]at hb
  obtain⟨rfl,rfl⟩:=Prod.mk.inj hb;clear hb;go_enter Tryz.func180,Tryz.ntmps180
  go_wp2
  go_ret2;exact⟨uN (by omega) (by omega),rfl⟩
 ·have hb:=aOE c h h2;rw[hs.out]at hb
  obtain⟨rfl,rfl⟩:=Prod.mk.inj hb;clear hb;go_enter Tryz.func180,Tryz.ntmps180
  go_wp2
  go_ret2;exact⟨uN (by omega) (by omega),rfl⟩
 ·have hb:=aOF c h;rw[hs.out]at hb
  obtain⟨rfl,rfl⟩:=Prod.mk.inj hb;clear hb;go_enter Tryz.func180,Tryz.ntmps180
  go_wp2
  go_ret2;exact⟨uN (by omega) (by omega),rfl⟩
theorem aHM (n:Nat)(hn:n≤4)(w:World):Calls Tryz.prog 181 #[.int .i64 n] w fun e w'=>e=.returned (.int .i64 (PU8.least n:Nat))∧w=w':=by
 have hcases:n=0∨n=1∨n=2∨n=3∨n=4:=by omega
 have hl0:PU8.least 0=0:=rfl;have hl1:PU8.least 1=0:=rfl;have hl2:PU8.least 2=128:=rfl;have hl3:PU8.least 3=2048:=rfl;have hl4:PU8.least 4=65536:=rfl;rcases hcases with rfl|rfl|rfl|rfl|rfl
 all_goals
  simp only[hl0,hl1,hl2,hl3,hl4];clear hl0 hl1 hl2 hl3 hl4;go_enter Tryz.func181,Tryz.ntmps181
  go_wp2
  go_ret;exact⟨aOq (by simp),rfl⟩
theorem aJY (c:Nat)(h:Val c)(w:World):Calls Tryz.prog 131 #[.int .i64 c] w fun e w'=>e=.returned (.bool true)∧w=w':=by
 obtain⟨h1,h2⟩:=h;rcases h1 with h1|h1
 ·go_enter Tryz.func131,Tryz.ntmps131
  go_wp2
  go_ret;exact⟨rfl,rfl⟩
 ·go_enter Tryz.func131,Tryz.ntmps131
  go_wp2
  go_ret;exact⟨aP4 (by simp;omega),rfl⟩
open Go.RowKit
abbrev aOZ:=ByteArray→List AT→List AT
def aIa (t:ByteArray):Nd:=.mk 2 0 ⟨#[]⟩ [] t []
def Nd.more (n:Nd)(t:ByteArray):Nd:=.mk n.kind n.space n.name n.attrs (n.text++t) n.kids
def aB7 (out:List Nd)(t:ByteArray):List Nd :=
 match out.getLast? with
 | none=>out++[aIa t]
 | some x=>if x.kind=2 then out.dropLast++[x.more t]else out++[aIa t]
def aQ7 (pn:ByteArray)(out:List Nd)(s:ByteArray):List Nd :=
 if gE s=⟨#[]⟩∨mI pn.data.toList=false then out else aB7 out (gE s)
def aRf (pn:ByteArray)(ph:List ByteArray)(out:List Nd)(nm:ByteArray):Bool :=
 mY pn.data.toList nm.data.toList&&(if aW nm.data.toList=4 then !Lib.containsS ph nm else if aW nm.data.toList=10 then decide (out=[])else true)
def aL3 (nm:ByteArray)(ph:List ByteArray):List ByteArray:=if aW nm.data.toList=4 then ph++[nm]else ph
def aEp (nm:ByteArray):Prop:=aW nm.data.toList=5∨aW nm.data.toList=6
instance (nm:ByteArray):Decidable (aEp nm):=by unfold aEp;exact inferInstance
mutual
def aQc (A:aOZ):ByteArray→List ByteArray→List Nd→Nd→List Nd
 | pn,ph,out,.mk kd sp nm at' tx ks =>
  if kd=2 then aQ7 pn out tx
  else if kd≠1∨sp≠0∨aW nm.data.toList=1 then out
  else if aRf pn ph out nm=true then out++[.mk 1 0 nm (A nm at') ⟨#[]⟩ (if aEp nm then []else aE9 A nm (aL3 nm ph) [] ks)]
  else aE9 A pn ph out ks
def aE9 (A:aOZ):ByteArray→List ByteArray→List Nd→List Nd→List Nd
 | _,_,out,[]=>out
 | pn,ph,out,n :: ns=>aE9 A pn ph (aQc A pn ph out n) ns
end
mutual
def aQf (f:List UInt8→List UInt8):Nd→List UInt8
 | .mk kd _ _ _ tx ks=>(if kd=2 then f tx.data.toList else [])++aKv f ks
def aKv (f:List UInt8→List UInt8):List Nd→List UInt8
 | []=>[]
 | n :: ns=>aQf f n++aKv f ns
end
def aGX (l:List Nd):Prop:=∀x∈l,x.kind=2→x.kids=[]
theorem aGX.add {out:List Nd}(h:aGX out)(t:ByteArray):aGX (aB7 out t):=by
 unfold aB7;have htx:(aIa t).kind=2→(aIa t).kids=[]:=fun _=>rfl
 split
 ·intro x hx;rcases List.mem_append.1 hx with hx|hx
  ·exact h x hx
  ·rw[List.mem_singleton.1 hx];exact htx
 ·rename_i y hy;split
  ·intro x hx;rcases List.mem_append.1 hx with hx|hx
   ·exact h x (List.dropLast_subset _ hx)
   ·rw[List.mem_singleton.1 hx];exact h y (List.mem_of_getLast? hy)
  ·intro x hx;rcases List.mem_append.1 hx with hx|hx
   ·exact h x hx
   ·rw[List.mem_singleton.1 hx];exact htx
open Go.RowKit
structure Phr (w:World) (pv:Value) (ph:List ByteArray):Prop where
 vec:jN w pv ph.length (ph.map tR)
 cap:∃a c,pv=.slice a ph.length c∧ph.length≤c
theorem Phr.below {w w':World}{B:Nat}{pv:Value}{ph:List ByteArray}(h:Phr w pv ph)(hb:Below B w w')(hB:w.heap.size≤B):Phr w' pv ph:=⟨h.vec.below hb hB,h.cap⟩
theorem Phr.nil (w:World):Phr w (.slice none 0 0) []:=⟨⟨none,0,rfl,fun j u hj=>by simp at hj⟩,⟨none,0,rfl,Nat.le_refl _⟩⟩
open Go.RowKit
def sY:List Value→Nat→List Value→List Value
 | xs,_,[]=>xs
 | xs,o,c :: r=>sY (xs.set o c) (o+1) r
theorem aKi:∀(cs xs:List Value) (o j:Nat),o+cs.length≤xs.length→(sY xs o cs)[j]?=if o≤j∧j<o+cs.length then cs[j-o]? else xs[j]?:=by
 intro cs;induction cs with
 | nil=>intro xs o j _;unfold sY;rw[if_neg (by simp only[List.length_nil];omega)]
 | cons c r ih =>
  intro xs o j h;simp only[List.length_cons]at h ⊢;unfold sY;rw[ih (xs.set o c) (o+1) j (by rw[List.length_set];omega)];by_cases h1:o+1≤j∧j<o+1+r.length
  ·rw[if_pos h1,if_pos (by omega),show j-o=(j-(o+1))+1 by omega,List.getElem?_cons_succ]
  ·rw[if_neg h1];by_cases h2:j=o
   ·subst h2;rw[if_pos (by omega),Nat.sub_self,List.getElem?_cons_zero,List.getElem?_set_self (by omega)]
   ·rw[if_neg (by omega),List.getElem?_set_ne (fun e=>h2 e.symm)]
theorem aFb (w:World)(p:Addr)(u:Value):(w.setCell p u).heap.size=w.heap.size:=by simp[World.setCell]
theorem aT.setCell {B:Nat}{e:TypeId}{size g n c:Nat}{xs:List Value}{W0 w:World}(h:aT B e size (.slice (some ⟨g,0,none⟩) n c) n xs W0 w)(j:Nat)(u:Value) :
  aT B e size (.slice (some ⟨g,0,none⟩) n c) n (xs.set j u) W0 (w.setCell ⟨g,j,none⟩ u):=by
 rcases h.own.2 with⟨hv,h0⟩|⟨g',cap,cur,hv,hB,hg,hnc,hcm,hcs,htake⟩
 ·cases hv
 ·simp only[Value.slice.injEq,Option.some.injEq,Addr.mk.injEq]at hv;obtain⟨⟨rfl,_⟩,_,rfl⟩:=hv;have e1:=setCell_eq_setRow w g j cur e (0,0) u hg;have hh:=setRow_heap w g cur (cur.setIfInBounds j u) e (0,0) hg;refine⟨⟨by rw[List.length_set];exact h.own.1,.inr ⟨g,c,cur.setIfInBounds j u,rfl,hB,by rw[e1];exact hh,hnc,hcm,by simpa using hcs,?_⟩⟩,h.bel.setCell hB u,by rw[aFb];exact h.base⟩;rw[Array.toList_setIfInBounds,List.take_set,htake]
theorem aT.setCells {B:Nat}{e:TypeId}{size g n c:Nat}{W0:World}:∀(cs xs:List Value) (o:Nat) (w:World),aT B e size (.slice (some ⟨g,0,none⟩) n c) n xs W0 w →
  aT B e size (.slice (some ⟨g,0,none⟩) n c) n (sY xs o cs) W0 (w.setCells g o cs):=by
 intro cs;induction cs with
 | nil=>intro xs o w h;exact h
 | cons u r ih =>
  intro xs o w h;unfold sY World.setCells;exact ih _ _ _ (h.setCell o u)
theorem aT.there {B:Nat}{e:TypeId}{size g n c:Nat}{xs:List Value}{W0 w:World}(h:aT B e size (.slice (some ⟨g,0,none⟩) n c) n xs W0 w)(o k:Nat)(hk:o+k≤xs.length):w.there g o k:=by
 intro j hj;obtain⟨a',c',e1,hc⟩:=h.vec;simp only[Value.slice.injEq]at e1;obtain⟨g',off,e2,hcell⟩:=hc (o+j) _ (List.getElem?_eq_getElem (by omega));rw[←e1.1]at e2
 simp only[Option.some.injEq,Addr.mk.injEq]at e2;obtain⟨rfl,rfl,_⟩:=e2;rw[Nat.zero_add]at hcell
 refine⟨by rw[hcell];rfl,?_⟩;rcases h.own.2 with⟨hv,h0⟩|⟨g',cap,cur,hv,hB,hg,_⟩
 ·cases hv
 ·simp only[Value.slice.injEq,Option.some.injEq,Addr.mk.injEq]at hv;obtain⟨⟨rfl,_⟩,_,rfl⟩:=hv;simp[World.frozen?,hg]
theorem aT.cell {B:Nat}{e:TypeId}{size g n c:Nat}{xs:List Value}{W0 w:World}(h:aT B e size (.slice (some ⟨g,0,none⟩) n c) n xs W0 w)(j:Nat)(u:Value)(hj:xs[j]?=some u):w.cell? ⟨g,j,none⟩=some u:=by
 obtain⟨a',c',e1,hc⟩:=h.vec;simp only[Value.slice.injEq]at e1;obtain⟨g',off,e2,hcell⟩:=hc j u hj;rw[←e1.1]at e2
 simp only[Option.some.injEq,Addr.mk.injEq]at e2;obtain⟨rfl,rfl,_⟩:=e2;rw[Nat.zero_add]at hcell
 exact hcell
theorem aT.atRow {B:Nat}{e:TypeId}{size n:Nat}{v:Value}{xs:List Value}{W0 w:World}(h:aT B e size v n xs W0 w)(hn:0<n):∃g c,v=.slice (some ⟨g,0,none⟩) n c∧B≤g∧g<w.heap.size∧v.ownBlock=some g:=by
 rcases h.own.2 with⟨hv,h0⟩|⟨g,cap,cur,hv,hB,hg,_⟩
 ·omega
 ·exact⟨g,cap,hv,hB,(Array.getElem?_eq_some_iff.1 hg).1,by rw[hv];rfl⟩
open Go.RowKit
structure Sv (p:Nat) (pn:ByteArray) (pv:Value) (ph:List ByteArray) (out:List Nd) (W1 w:World):Prop where
 at':p=W1.heap.size
 row:∃v xs,w.heap[p]?=some (.cells #[.string pn,pv,v] 151 (0,0))∧aT p 45 6 v out.length xs W1 w∧v.ownBlock≠some p∧fT (fun g=>p<g∧v.ownBlock≠some g) w xs out
 phr:Phr W1 pv ph
theorem Sv.below {p:Nat}{pn:ByteArray}{pv:Value}{ph:List ByteArray}{out:List Nd}{W1 w w':World}(h:Sv p pn pv ph out W1 w)(hb:Below w.heap.size w w'):Sv p pn pv ph out W1 w':=by
 obtain⟨v,xs,hr,hO,hne,hC⟩:=h.row;have hlt:p<w.heap.size:=(Array.getElem?_eq_some_iff.1 hr).1;exact⟨h.at',⟨v,xs,by rw[hb.block p hlt];exact hr,hO.keep hb,hne,hC.keep (fun g hg hd=>⟨hb.block g hg,hd⟩)⟩,h.phr⟩
theorem Sv.bel {p:Nat}{pn:ByteArray}{pv:Value}{ph:List ByteArray}{out:List Nd}{W1 w:World}(h:Sv p pn pv ph out W1 w):Below W1.heap.size W1 w:=by
 obtain⟨v,xs,hr,hO,hne,hC⟩:=h.row;have:=hO.bel;rw[←h.at'];exact this
open Go.Lib
theorem aFv (V:ByteArray→ByteArray→Option ByteArray)(x:AT):∀(l:List AT) (sn:List ByteArray),(x.1∈sn∨∃y∈l,y.1=x.1)→aX V sn (l++[x])=aX V sn l:=by
 intro l;induction l with
 | nil =>
  intro sn h;rcases h with h|⟨y,hy,_⟩
  ·show aX V sn [x]=aX V sn [];conv=>lhs;unfold aX
   rw[if_pos ((containsS_iff _ _).2 h)]
  ·simp at hy
 | cons y l ih =>
  intro sn h;show aX V sn (y :: (l++[x]))=_;by_cases hy:y.1∈sn
  ·conv=>lhs;unfold aX
   conv=>rhs;unfold aX
   rw[if_pos ((containsS_iff _ _).2 hy),if_pos ((containsS_iff _ _).2 hy)];refine ih sn ?_;rcases h with h|⟨z,hz,e⟩
   ·exact .inl h
   ·rcases List.mem_cons.1 hz with rfl|hz
    ·exact .inl (e▸hy)
    ·exact .inr ⟨z,hz,e⟩
  ·conv=>lhs;unfold aX
   conv=>rhs;unfold aX
   rw[if_neg (fun h=>hy ((containsS_iff _ _).1 h)),if_neg (fun h=>hy ((containsS_iff _ _).1 h))];rw[ih (sn++[y.1]) ?_];rcases h with h|⟨z,hz,e⟩
   ·exact .inl (List.mem_append_left _ h)
   ·rcases List.mem_cons.1 hz with rfl|hz
    ·exact .inl (by rw[←e];simp)
    ·exact .inr ⟨z,hz,e⟩
theorem zT (V:ByteArray→ByteArray→Option ByteArray)(x:AT):∀(l:List AT) (sn:List ByteArray),x.1∉sn→(∀y∈l,y.1≠x.1)→aX V sn (l++[x])=aX V sn l++(match V x.1 x.2 with|some t=>[(x.1,t)]|none=>[]):=by
 intro l;induction l with
 | nil =>
  intro sn h _;show aX V sn [x]=aX V sn []++_;conv=>lhs;unfold aX
  rw[if_neg (fun hh=>h ((containsS_iff _ _).1 hh))];cases V x.1 x.2<;>simp[aX]
 | cons y l ih =>
  intro sn h h2;show aX V sn (y :: (l++[x]))=_;have h3:∀z∈l,z.1≠x.1:=fun z hz=>h2 z (List.mem_cons_of_mem _ hz)
  by_cases hy:y.1∈sn
  ·conv=>lhs;unfold aX
   conv=>rhs;lhs;unfold aX
   rw[if_pos ((containsS_iff _ _).2 hy),if_pos ((containsS_iff _ _).2 hy)];exact ih sn h h3
  ·conv=>lhs;unfold aX
   conv=>rhs;lhs;unfold aX
   rw[if_neg (fun h=>hy ((containsS_iff _ _).1 h)),if_neg (fun h=>hy ((containsS_iff _ _).1 h))];rw[ih (sn++[y.1]) (by
    simp only[List.mem_append,List.mem_singleton,not_or];exact⟨h,fun e=>h2 y List.mem_cons_self e.symm⟩) h3,List.append_assoc]
structure jL (V:ByteArray→ByteArray→Option ByteArray) (l:List AT) (k:Nat) (done:List AT):Prop where
 le:k≤l.length
 dl:done.length≤k
 out:kM V (l.take k) done
theorem jL.start (V:ByteArray→ByteArray→Option ByteArray)(l:List AT):jL V l 0 []:=⟨Nat.zero_le _,Nat.le_refl _,by
 refine⟨?_,List.Pairwise.nil⟩;rw[List.take_zero];exact List.Perm.nil⟩
theorem jL.done {V:ByteArray→ByteArray→Option ByteArray}{l:List AT}{k:Nat}{done:List AT}(h:jL V l k done)(hk:l.length≤k):kM V l done:=by
 have:=h.out;rwa[List.take_of_length_le hk]at this
theorem jL.old {V:ByteArray→ByteArray→Option ByteArray}{l:List AT}{k:Nat}{done:List AT}(h:jL V l k done)(hk:k<l.length)(ho:∃j,∃hj:j<k,(l[j]).1=(l[k]).1):jL V l (k+1) done:=by
 have:=h.dl;refine⟨hk,by omega,?_,h.out.2⟩;obtain⟨j,hj,e⟩:=ho;rw[List.take_succ_eq_append_getElem hk,aFv V l[k] (l.take k) [] (.inr ⟨l[j],List.mem_take_iff_getElem.2 ⟨j,by omega,rfl⟩,e⟩)];exact h.out.1
theorem jL.no {V:ByteArray→ByteArray→Option ByteArray}{l:List AT}{k:Nat}{done:List AT}(h:jL V l k done)(hk:k<l.length)(hv:V (l[k]).1 (l[k]).2=none):jL V l (k+1) done:=by
 have:=h.dl;by_cases ho:∃j,∃hj:j<k,(l[j]).1=(l[k]).1
 ·exact h.old hk ho
 refine⟨hk,by omega,?_,h.out.2⟩;rw[List.take_succ_eq_append_getElem hk,zT V l[k] (l.take k) [] (by simp) (fun y hy e=>?_),hv]
 ·rw[List.append_nil];exact h.out.1
 ·obtain⟨j,hj,rfl⟩:=List.mem_take_iff_getElem.1 hy;exact ho ⟨j,by omega,e⟩
theorem jL.yes {V:ByteArray→ByteArray→Option ByteArray}{l:List AT}{k:Nat}{done:List AT}{t:ByteArray}(h:jL V l k done)(hk:k<l.length)(ho:∀j,∀hj:j<k,(l[j]).1≠(l[k]).1)(hv:V (l[k]).1 (l[k]).2=some t)
  (p:Nat) (hp:p≤done.length) (h1:∀j,∀hj:j<done.length,p≤j→compareBytes (l[k]).1.data.toList (done[j]).1.data.toList<0) (h2:∀h0:0<p,¬compareBytes (l[k]).1.data.toList (done[p-1]).1.data.toList<0) :
  jL V l (k+1) (done.take p++((l[k]).1,t) :: done.drop p):=by
 have hdl:=h.dl;have hne:∀d∈done,d.1≠(l[k]).1:=by
  intro d hd e;obtain⟨v,hm,_⟩:=aG2 V (l.take k) [] d (h.out.1.mem_iff.1 hd);obtain⟨j,hj,e2⟩:=List.mem_take_iff_getElem.1 hm;exact ho j (by omega) (by rw[e2];exact e)
 refine⟨hk,by simp;omega,?_,?_⟩
 ·rw[List.take_succ_eq_append_getElem hk,zT V l[k] (l.take k) [] (by simp) (fun y hy e=>?_),hv]
  ·refine List.Perm.trans ?_ (h.out.1.append_right _);refine List.perm_middle.trans ?_;rw[List.take_append_drop];exact List.perm_append_comm (l₁ := [((l[k]).1,t)])
  ·obtain⟨j,hj,rfl⟩:=List.mem_take_iff_getElem.1 hy;exact ho j (by omega) e
 ·have hr:=h.out.2;unfold tX at hr ⊢;have hlow:∀d∈done.take p,compareBytes d.1.data.toList (l[k]).1.data.toList<0:=by
   intro d hd;obtain⟨j,hj,rfl⟩:=List.mem_take_iff_getElem.1 hd;have hjp:j<p:=by omega
   have a:=h2 (by omega);rw[nE (done[p-1]).1.data.toList]at a
   have b:compareBytes (done[p-1]).1.data.toList (l[k]).1.data.toList≠0:=fun e=>hne (done[p-1]'(by omega)) (List.getElem_mem _) (by
    have:=aA8 _ _ e;cases hx:(done[p-1]).1;cases hy:(l[k]).1;rw[hx,hy]at this
    simpa using this)
   by_cases hjj:j=p-1
   ·subst hjj;omega
   ·rw[List.pairwise_iff_getElem]at hr
    have c:=hr j (p-1) (by omega) (by omega) (by omega);unfold nX at c;exact aAo _ _ _ c (by omega)
  rw[List.pairwise_append];refine⟨hr.sublist (List.take_sublist _ _),?_,?_⟩
  ·rw[List.pairwise_cons];refine⟨fun d hd=>?_,hr.sublist (List.drop_sublist _ _)⟩;obtain⟨j,hj,rfl⟩:=List.mem_drop_iff_getElem.1 hd;exact h1 (p+j) (by omega) (by omega)
  ·intro a ha b hb;rcases List.mem_cons.1 hb with rfl|hb
   ·exact hlow a ha
   ·obtain⟨i,hi,rfl⟩:=List.mem_take_iff_getElem.1 ha;obtain⟨j,hj,rfl⟩:=List.mem_drop_iff_getElem.1 hb;rw[List.pairwise_iff_getElem]at hr
    exact hr i (p+j) (by omega) (by omega) (by omega)
theorem less_iff:∀a b:List UInt8,Op.bytesLess a b=decide (compareBytes a b<0):=by
 intro a;induction a with
 | nil =>
  intro b;cases b with
  | nil=>rfl
  | cons d b=>simp[compareBytes,Op.bytesLess]
 | cons c a ih =>
  intro b;cases b with
  | nil=>simp[compareBytes,Op.bytesLess]
  | cons d b =>
   rw[qY];unfold Op.bytesLess;by_cases h1:c.toNat<d.toNat
   ·have:decide (c<d)=true:=by simp[UInt8.lt_iff_toNat_lt];omega
    rw[this,if_pos h1];rfl
   ·have h1':decide (c<d)=false:=by simp[UInt8.lt_iff_toNat_lt];omega
    rw[if_neg h1,h1',Bool.false_or];by_cases h2:d.toNat<c.toNat
    ·rw[if_pos h2];have:(c==d)=false:=by rw[beq_eq_false_iff_ne];intro e;rw[e]at h2;omega
     rw[this];rfl
    ·rw[if_neg h2];have e:c=d:=UInt8.toNat_inj.1 (by omega);rw[ih b,e];simp
end Go.Proofs.YtcfgbdhpcboikaaGreatDoor
