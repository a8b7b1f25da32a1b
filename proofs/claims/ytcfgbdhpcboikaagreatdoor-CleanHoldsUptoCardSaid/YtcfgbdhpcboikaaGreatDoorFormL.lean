/-
policy.form as a plain function: which form a value has, by its element and its attribute.
-/
import Derived.Test.YtcfgbdhpcboikaaGreatDoorMayW
import Derived.Test.YtcfgbdhpcboikaaGreatDoorNumQ
namespace Go.Proofs.YtcfgbdhpcboikaaGreatDoor
open Go.Lib (hid)
set_option maxHeartbeats 16000000
set_option maxRecDepth 100000
open Go.RowKit
theorem oI {n:Nat}:n≤n:=Nat.le_refl n
def uJ:ByteArray:=⟨#[108,97,110,103]⟩
def aBb:ByteArray:=⟨#[100,105,114]⟩
def aDY:ByteArray:=⟨#[115,114,99]⟩
def jX:ByteArray:=⟨#[105,109,103]⟩
def aDL:ByteArray:=⟨#[97,108,116]⟩
def qP:ByteArray:=⟨#[104,101,105,103,104,116]⟩
def sS:ByteArray:=⟨#[119,105,100,116,104]⟩
def sOl:ByteArray:=⟨#[111,108]⟩
def tG:ByteArray:=⟨#[115,116,97,114,116]⟩
def sTd:ByteArray:=⟨#[116,100]⟩
def sTh:ByteArray:=⟨#[116,104]⟩
def kW:ByteArray:=⟨#[99,111,108,115,112,97,110]⟩
def kJ:ByteArray:=⟨#[114,111,119,115,112,97,110]⟩
def jP:ByteArray:=⟨#[109,101,116,101,114]⟩
def mP:ByteArray:=⟨#[112,114,111,103,114,101,115,115]⟩
def wV:ByteArray:=⟨#[109,97,120]⟩
def oU:ByteArray:=⟨#[118,97,108,117,101]⟩
def aCU:ByteArray:=⟨#[104,105,103,104]⟩
def aGw:ByteArray:=⟨#[108,111,119]⟩
def aFv:ByteArray:=⟨#[109,105,110]⟩
def aAw:ByteArray:=⟨#[97,117,116,111]⟩
def aEm:ByteArray:=⟨#[108,116,114]⟩
def aDa:ByteArray:=⟨#[114,116,108]⟩
def aOq:ByteArray:=⟨#[104,116,116,112]⟩
def aNn:ByteArray:=⟨#[104,116,116,112,115]⟩
inductive FK where
 | text|lang|dir|linkA|linkI|whole (lo hi:Nat)|fix|none
deriving DecidableEq
def xE (e n:ByteArray):Bool:=(decide (e=jP)&&(decide (n=wV)||decide (n=oU)||decide (n=aCU)||decide (n=aGw)||decide (n=aFv)))||(decide (e=mP)&&(decide (n=wV)||decide (n=oU)))
def kY (e n:ByteArray):FK :=
 if n=bB then .text else if n=uJ then .lang else if n=aBb then .dir
 else if e=sA∧n=aA5 then .linkA
 else if e=jX∧n=aDY then .linkI
 else if e=jX∧n=aDL then .text
 else if e=jX∧(n=qP∨n=sS)then .whole 0 9999
 else if e=sOl∧n=tG then .whole 0 999999
 else if (e=sTd∨e=sTh)∧(n=kW∨n=kJ)then .whole 1 1000
 else if xE e n=true then .fix
 else .none
def aE2 (c:UInt8):Bool:=(decide (97≤c.toNat)&&decide (c.toNat≤122))||(decide (65≤c.toNat)&&decide (c.toNat≤90))
def xK (c:UInt8)(i:Nat):Bool:=aE2 c||(decide (0<i)&&(decide (c.toNat=45)||(decide (48≤c.toNat)&&decide (c.toNat≤57))))
def aBn (l:List UInt8):Prop:=∀j (h:j<l.length),xK l[j] j=true
def tY (v:ByteArray):Prop:=aBn v.data.toList∧1≤v.size∧v.size≤16
def zQ (v:ByteArray):Prop:=v=aAw∨v=aEm∨v=aDa
def aNG (lo hi:Nat)(v:ByteArray):Prop:=∃x,eZ v lo hi x true
def mL (v:ByteArray):ByteArray:=⟨(dC v.data.toList).toArray⟩
def zO:List ByteArray:=[aOq,aNn]
structure aLA (v t:ByteArray):Prop where
 sz:t.size≤25
 num:iG t.data.toList=true
 yes:∀w,aC w→Calls Tryz.prog 20 #[.string v] w fun e w'=>e=.returned (.tuple #[.string t,.bool true])∧Below w.heap.size w w'
 again:∀w,aC w→Calls Tryz.prog 20 #[.string t] w fun e w'=>e=.returned (.tuple #[.string t,.bool true])∧Below w.heap.size w w'
def aLt (v:ByteArray):Prop:=∀w,aC w→Calls Tryz.prog 20 #[.string v] w fun e w'=>e=.returned (.tuple #[.string ⟨#[]⟩,.bool false])∧Below w.heap.size w w'
def rN (k:FK)(v:ByteArray):Option ByteArray→Prop
 | some t=>match k with
  | .text=>t=bT v
  | .lang=>tY v∧t=v
  | .dir=>zQ (mL v)∧t=mL v
  | .linkA=>kE uT (dI v.data.toList)=true∧t=rP v
  | .linkI=>kE zO (dI v.data.toList)=true∧t=rP v
  | .whole lo hi=>aNG lo hi v∧t=v
  | .fix=>aLA v t
  | .none=>False
 | none=>match k with
  | .text=>False
  | .lang=>¬tY v
  | .dir=>¬zQ (mL v)
  | .linkA=>kE uT (dI v.data.toList)=false
  | .linkI=>kE zO (dI v.data.toList)=false
  | .whole lo hi=>∃x,eZ v lo hi x false
  | .fix=>aLt v
  | .none=>True
def kG (e n v:ByteArray)(o:Option ByteArray):Prop :=
 match o with
 | some t=>¬(bO e.data.toList<2∨bO e.data.toList=14)∧rN (kY e n) v (some t)∧(oF t).size≤120
 | none=>(bO e.data.toList<2∨bO e.data.toList=14)∨rN (kY e n) v none∨∃t,rN (kY e n) v (some t)∧120<(oF t).size
theorem aH6 {v:ByteArray}(h:zQ v):mL v=v:=by
 rcases h with rfl|rfl|rfl<;>exact fL (by decide)
theorem aFQ {k:FK}{v t:ByteArray}(h:rN k v (some t)):rN k t (some t):=by
 cases k with
 | text=>subst h;exact(tQ v).symm
 | lang=>obtain⟨h1,rfl⟩:=h;exact⟨h1,rfl⟩
 | dir =>
  obtain⟨h1,h2⟩:=h;rw[←h2]at h1
  have e:=aH6 h1;exact⟨by rw[e];exact h1,e.symm⟩
 | linkA =>
  obtain⟨h1,rfl⟩:=h;exact⟨by rw[qA,vX];exact h1,(aAS v).symm⟩
 | linkI =>
  obtain⟨h1,rfl⟩:=h;exact⟨by rw[qA,vX];exact h1,(aAS v).symm⟩
 | whole lo hi=>obtain⟨h1,rfl⟩:=h;exact⟨h1,rfl⟩
 | fix=>exact⟨h.sz,h.num,h.again,h.again⟩
 | none=>exact h
theorem aEP {e n v t:ByteArray}(h:kG e n v (some t)):kG e n t (some t):=⟨h.1,aFQ h.2.1,h.2.2⟩
open Go.RowKit
def sZ (l:List UInt8)(k:Nat):Prop:=k≤l.length∧∀j (h:j<l.length),j<k→xK l[j] j=true
theorem sZ.step {l:List UInt8}{k:Nat}(h:sZ l k)(hk:k<l.length)(hb:xK l[k] k=true):sZ l (k+1) :=
 ⟨hk,fun j hj hlt=>by
  rcases Nat.lt_or_ge j k with h1|h1
  ·exact h.2 j hj h1
  ·obtain rfl:j=k:=by omega
   exact hb⟩
theorem aIR {l:List UInt8}{k:Nat}(hk:k<l.length)(hb:xK l[k] k=false):¬aBn l:=fun h=>by
 have:=h k hk;rw[hb]at this
 cases this
theorem aEd (c:UInt8)(d k:Nat)(h:c.toNat=d):xK c k=(((decide (97≤d)&&decide (d≤122))||(decide (65≤d)&&decide (d≤90)))||(decide (0<k)&&(decide (d=45)||(decide (48≤d)&&decide (d≤57))))):=by
 unfold xK aE2;rw[h]
structure zI (v:ByteArray) (k d:Nat):Prop where
 yes:(((decide (97≤d)&&decide (d≤122))||(decide (65≤d)&&decide (d≤90)))||(decide (0<k)&&(decide (d=45)||(decide (48≤d)&&decide (d≤57)))))=true→sZ v.data.toList (k+1)
 no:(((decide (97≤d)&&decide (d≤122))||(decide (65≤d)&&decide (d≤90)))||(decide (0<k)&&(decide (d=45)||(decide (48≤d)&&decide (d≤57)))))=false→¬tY v
theorem zI.of (v:ByteArray)(k d:Nat)(hk:k<v.data.toList.length)(h:sZ v.data.toList k)(hd:v.data.toList[k].toNat=d):zI v k d :=
 ⟨fun hy=>by rw[←aEd _ d k hd]at hy;exact h.step hk hy,fun hn hp=>by rw[←aEd _ d k hd]at hn;exact aIR hk hn hp.1⟩
theorem aJb (v:ByteArray)(hv:v.size≤140737488355328)(b:Bool)(hb:Hid (b=true↔tY v))(w:World):Calls Tryz.prog 142 #[.string v] w fun e w'=>e=.returned (.bool b)∧Below w.heap.size w w':=by
 obtain⟨cap,W,hrun,hbel,hby,hcap,hsz⟩:=tU v w;have HB:=hid hbel;have HY:Hid (cU W w.heap.size 0 v.data.toList):=hby;have HNO:Hid (¬tY v→b=false):=fun h=>by
  cases b with
  | false=>rfl
  | true=>exact absurd (hb.out.1 rfl) h
 clear hbel hby hcap hsz;go_enter Tryz.func142,Tryz.ntmps142
 go_wp2
 clear hrun;go_loop [2,9] (fun r i=>r=.bool false∧∃k:Nat,i=.int .i64 k∧Hid (sZ v.data.toList k)) (fun _ i=>v.size-(intOf i).toNat)
 case atStart=>exact⟨rfl,0,rfl,hid ⟨Nat.zero_le _,fun j hj h0=>absurd h0 (by omega)⟩⟩
 case round =>
  obtain⟨rfl,k,rfl,hR⟩:=hrel;rcases Nat.lt_or_ge k v.size with hlt|hge
  ·have hcell:=HY.out k hlt;obtain⟨d,hd⟩:∃d,(v.data.toList[k]'hlt).toNat=d:=⟨_,rfl⟩
   have HS:=hid (zI.of v k d hlt hR.out hd);have hd8:d<256:=by rw[←hd];exact(v.data.toList[k]'hlt).toNat_lt
   rw[hd,Nat.zero_add]at hcell
   clear hd;have hcases:(97≤d∧d≤122)∨(65≤d∧d≤90)∨d=45∨(48≤d∧d≤57)∨(d<45∨(45<d∧d<48)∨(57<d∧d<65)∨(90<d∧d<97)∨122<d):=by omega
   rcases hcases with⟨h,h2⟩|⟨h,h2⟩|rfl|⟨h,h2⟩|h
   ·have HF:=hid (HS.out.yes (by simp;omega));have l1:decide ((d:Int)≤122)=true:=by simp;omega
    go_wp2
    go_round
    case rel=>exact⟨rfl,k+1,by go_num,HF⟩
    case measure=>simp[intOf];omega
   ·have HF:=hid (HS.out.yes (by simp;omega));have l1:decide ((d:Int)≤90)=true:=by simp;omega
    go_wp2
    go_round
    case rel=>exact⟨rfl,k+1,by go_num,HF⟩
    case measure=>simp[intOf];omega
   ·rcases Nat.eq_zero_or_pos k with hk0|hk0
    ·subst hk0;have HF:=hid (HNO.out (HS.out.no (by simp)));go_wp2
     go_ret;exact⟨by rw[HF.out];rfl,HB.out⟩
    ·have HF:=hid (HS.out.yes (by simp;omega));have tk:((k:Int)==0)=false:=by rw[beq_eq_false_iff_ne];omega
     go_wp2
     go_round
     case rel=>exact⟨rfl,k+1,by go_num,HF⟩
     case measure=>simp[intOf];omega
   ·have t45:((d:Int)==45)=false:=by rw[beq_eq_false_iff_ne];omega
    have t45':((d:Int) !=45)=true:=by rw[bne_iff_ne];omega
    have l1:decide ((d:Int)≤57)=true:=by simp;omega
    rcases Nat.eq_zero_or_pos k with hk0|hk0
    ·subst hk0;have HF:=hid (HNO.out (HS.out.no (by simp;omega)));go_wp2
     go_ret;exact⟨by rw[HF.out];rfl,HB.out⟩
    ·have HF:=hid (HS.out.yes (by simp;omega));have tk:((k:Int)==0)=false:=by rw[beq_eq_false_iff_ne];omega
     go_wp2
     go_round
     case rel=>exact⟨rfl,k+1,by go_num,HF⟩
     case measure=>simp[intOf];omega
   ·have t45:((d:Int)==45)=false:=by rw[beq_eq_false_iff_ne];omega
    have t45':((d:Int) !=45)=true:=by rw[bne_iff_ne];omega
    have HF:=hid (HNO.out (HS.out.no (by simp;omega)));rcases Nat.eq_zero_or_pos k with hk0|hk0
    ·subst hk0;rcases h with h|⟨h,h2⟩|⟨h,h2⟩|⟨h,h2⟩|h
     all_goals
      try have l1:decide ((d:Int)≤122)=false:=by simp;omega
      try have l2:decide ((d:Int)≤90)=false:=by simp;omega
      try have l3:decide ((d:Int)≤57)=false:=by simp;omega
      go_wp2
      go_ret;exact⟨by rw[HF.out];rfl,HB.out⟩
    ·have tk:((k:Int)==0)=false:=by rw[beq_eq_false_iff_ne];omega
     rcases h with h|⟨h,h2⟩|⟨h,h2⟩|⟨h,h2⟩|h
     all_goals
      try have l1:decide ((d:Int)≤122)=false:=by simp;omega
      try have l2:decide ((d:Int)≤90)=false:=by simp;omega
      try have l3:decide ((d:Int)≤57)=false:=by simp;omega
      go_wp2
      go_ret;exact⟨by rw[HF.out];rfl,HB.out⟩
  ·have hall:aBn v.data.toList:=fun j hj=>hR.out.2 j hj (by have:v.data.toList.length=v.size:=rfl;omega)
   have HX:Hid (1≤v.size∧v.size≤16→b=true):=fun h=>hb.out.2 ⟨hall,h.1,h.2⟩
   have HN:Hid (¬(1≤v.size∧v.size≤16)→b=false):=fun h=>HNO.out fun hp=>h hp.2
   clear hall;rcases Nat.lt_or_ge v.size 1 with h1|h1
   ·have HF:=hid (HN.out (by omega));go_wp2
    go_ret;exact⟨by rw[HF.out];rfl,HB.out⟩
   ·rcases Nat.lt_or_ge 16 v.size with h2|h2
    ·have HF:=hid (HN.out (by omega));have l16:decide ((v.size:Int)≤16)=false:=by simp;omega
     go_wp2
     go_ret;exact⟨by rw[HF.out];rfl,HB.out⟩
    ·have HF:=hid (HX.out ⟨h1,h2⟩);have l16:decide ((v.size:Int)≤16)=true:=by simp;omega
     go_wp2
     go_ret;exact⟨by rw[HF.out];rfl,HB.out⟩
open Go.RowKit
def aNB:List UInt8:=List.replicate 800 0
theorem aKp:aNB.length=800:=List.length_replicate
def aJi:Dec.Dc:=⟨aNB,0,0,false,false⟩
def rM (s:Dec.Dc)(c:UInt8):Dec.Dc :=
 if c=46 then { s with dp:=s.nd }else if c=48∧s.nd=0 then { s with dp:=s.dp-1 }else { s with D:=s.D.set s.nd c,nd:=s.nd+1 }
def iI (neg:Bool)(l:List UInt8):Dec.Dc:=l.foldl rM { aJi with neg:=neg }
theorem aAD (neg:Bool)(l:List UInt8)(c:UInt8):iI neg (l++[c])=rM (iI neg l) c:=by simp[iI]
structure SOk (s:Dec.Dc) (r:RS) (neg:Bool) (k:Nat):Prop where
 len:s.D.length=800
 nd:s.nd=r.nd
 dp:s.dp=r.dp
 le:s.nd≤k
 neg:s.neg=neg
 tr:s.trunc=false
 dig:∀c∈s.D.take s.nd,48≤c.toNat∧c.toNat≤57
 head:∀c,(s.D.take s.nd).head?=some c→c≠48
theorem aJr {s:Dec.Dc}{r:RS}{neg:Bool}{k:Nat}{c:UInt8}(h:SOk s r neg k)(hk:k<800)(hc:dE c=true):SOk (rM s c) (dS r c) neg (k+1):=by
 obtain⟨h1,h2,h3,h4,h5,h6,h7,h8⟩:=h;unfold rM dS;by_cases h46:c=46
 ·rw[if_pos h46,if_pos h46];exact⟨h1,h2,by show(s.nd:Int)=r.nd;rw[h2],by show s.nd≤k+1;omega,h5,h6,h7,h8⟩
 ·rw[if_neg h46,if_neg h46];have hd:aS c=true:=by simpa [dE,h46]using hc
  have hb:=eQ c hd;by_cases hz:c=48∧s.nd=0
  ·rw[if_pos hz,if_pos ⟨hz.1,by rw[←h2];exact hz.2⟩];exact⟨h1,h2,by show s.dp-1=r.dp-1;rw[h3],by show s.nd≤k+1;omega,h5,h6,h7,h8⟩
  ·rw[if_neg hz,if_neg (show ¬(c=48∧r.nd=0) by rw[←h2];exact hz)];have hlt:s.nd<s.D.length:=by omega
   have htk:(s.D.set s.nd c).take (s.nd+1)=s.D.take s.nd++[c]:=by
    rw[List.take_add_one,List.getElem?_set_self hlt];congr 1;rw[List.take_set_of_le oI]
   have nd':∀r':RS,r'.nd=r.nd+1→s.nd+1=r'.nd:=fun r' e=>by omega
   have rest:∀r':RS,r'.nd=r.nd+1→r'.dp=r.dp→SOk { s with D:=s.D.set s.nd c,nd:=s.nd+1 } r' neg (k+1):=by
    intro r' e1 e2;refine⟨by rw[List.length_set];exact h1,nd' r' e1,by show s.dp=r'.dp;rw[h3,e2],by show s.nd+1≤k+1;omega,h5,h6,?_,?_⟩
    ·intro x hx;rw[show(({ s with D:=s.D.set s.nd c,nd:=s.nd+1 }:Dec.Dc).D.take ({ s with D:=s.D.set s.nd c,nd:=s.nd+1 }:Dec.Dc).nd)=s.D.take s.nd++[c]from htk]at hx
     rcases List.mem_append.1 hx with g|g
     ·exact h7 x g
     ·rw[List.mem_singleton.1 g];exact hb
    ·intro x hx;rw[show(({ s with D:=s.D.set s.nd c,nd:=s.nd+1 }:Dec.Dc).D.take ({ s with D:=s.D.set s.nd c,nd:=s.nd+1 }:Dec.Dc).nd)=s.D.take s.nd++[c]from htk]at hx
     by_cases hn0:s.nd=0
     ·rw[hn0]at hx
      have e:x=c:=by simpa using hx.symm
      rw[e];exact fun e48=>hz ⟨e48,hn0⟩
     ·have e:(s.D.take s.nd++[c]).head?=(s.D.take s.nd).head?:=by
       cases hq:s.D.take s.nd with
       | nil =>
        have hql:=congrArg List.length hq;rw[List.length_take,List.length_nil]at hql
        omega
       | cons a b=>rfl
      rw[e]at hx
      exact h8 x hx
   split
   ·exact rest _ rfl rfl
   ·exact rest _ rfl rfl
theorem aDo (neg:Bool)(l:List UInt8)(hl:l.length≤800)(h:∀c∈l,dE c=true):SOk (iI neg l) (aR l) neg l.length:=by
 induction l using gL with
 | h0=>exact⟨aKp,rfl,rfl,Nat.le_refl _,rfl,rfl,fun c hc=>(by cases (show c∈([]:List UInt8)from hc)),fun c hc=>(by cases (show([]:List UInt8).head?=some c from hc))⟩
 | h1 l c ih =>
  rw[List.length_append]at hl
  rw[aAD,dP,List.length_append];exact aJr (ih (by simp at hl;omega) (fun x hx=>h x (by simp[hx]))) (by simp at hl;omega) (h c (by simp))
def aDw (neg:Bool)(l:List UInt8)(ev:Int):Dec.Dc:={ iI neg l with dp:=(aR l).place+ev }
def aMc (B:Nat)(s:Dec.Dc)(w:World)(e:Ending)(w':World):Prop:=e=.returned (.bool true)∧aE w' B s∧aG (· = B) w w'
theorem aLN (B:Nat)(s:ByteArray)(neg:Bool)(p0 q:Nat)(w:World)(h:aE w B aJi)(hs:s.size≤40)(hsg:vV s neg p0)(N:mI s p0 q)(ev:Int)(hE:aAW s q ev) :
  Calls Tryz.prog 240 #[.pointer (some ⟨B,0,none⟩),.string s] w (aMc B (aDw neg (aK s p0 q) ev) w):=by
 obtain⟨h0,hsg⟩:=hsg;have hlt:=N.lt;have hle:=N.le;have HN:=hid N;have HS:=hid hsg;have hne:¬s=ByteArray.empty:=by rintro rfl;simp at h0
 have HE:=hid hE;have HDG:=hid N.dig;have c802:w.cell? ⟨B,802,none⟩=some (.bool false):=h.neg;have c803:w.cell? ⟨B,803,none⟩=some (.bool false):=h.trunc;have f802:=h.fz 802;have f803:=h.fz 803;have H:=hid h;clear N hsg hE h;obtain⟨R,hR⟩:∃R,R=aR (aK s p0 q):=⟨_,rfl⟩
 have hch:=tX s p0 q HN.out q (Nat.le_of_lt hlt) oI;have hpl:=kX s p0 q (Nat.le_of_lt hlt) hle;have sok:∀j,p0≤j→j≤q→SOk (iI neg (aK s p0 j)) (aR (aK s p0 j)) neg 40:=by
  intro j h1 h2;have hl:=kX s p0 j h1 (by omega);obtain⟨a1,a2,a3,a4,a5,a6,a7,a8⟩:=aDo neg (aK s p0 j) (by omega) (tX s p0 q HN.out j h1 h2);exact⟨a1,a2,a3,by omega,a5,a6,a7,a8⟩
 have HSO:=hid sok;have HRR:=hid hR;clear sok hR hch hpl;go_enter Tryz.func240,Tryz.ntmps240
 go_upto_block 0 with fail
 go_cut [5] (fun b wx=>b=.int .i64 p0∧aE wx B { aJi with neg:=neg }∧aG (· = B) w wx)
 case first =>
  as_aux_lemma =>
   rcases HS.out with⟨rfl,rfl,g1,g2⟩|⟨rfl,rfl,g1,g2⟩
   ·as_aux_lemma =>
     go_wp2_with fail
     go_meet
     case rel=>exact⟨rfl,(H.out.setNeg false).setTr false,((aG.refl (· = B) _).setCell _ _ (fun _=>rfl)).setCell _ _ (fun _=>rfl)⟩
   ·as_aux_lemma =>
     go_wp2_with fail
     go_meet
     case rel=>exact⟨rfl,((H.out.setNeg false).setTr false).setNeg true,(((aG.refl (· = B) _).setCell _ _ (fun _=>rfl)).setCell _ _ (fun _=>rfl)).setCell _ _ (fun _=>rfl)⟩
 case rest =>
  as_aux_lemma =>
   obtain⟨rfl,hD0,hK0⟩:=hcut;have HD0:=hid hD0;have HK0:=hid hK0;clear hD0 hK0 c802 c803 f802 f803;go_upto_block 1 with fail
   go_cut [5,6,7] (fun i dot dg wx=>i=.int .i64 q∧dot=.bool (aR (aK s p0 q)).dot∧dg=.bool true∧aE wx B (iI neg (aK s p0 q))∧aG (· = B) w wx)
   case first =>
    as_aux_lemma =>
     go_wp2_with fail
     go_loopw [5,6,7] (fun i dot dg wr=>∃j:Nat,p0≤j∧j≤q∧i=.int .i64 j∧dot=.bool (aR (aK s p0 j)).dot∧dg=.bool (aR (aK s p0 j)).dig∧aE wr B (iI neg (aK s p0 j))∧aG (· = B) w wr) (fun i _ _ _=>q-(intOf i).toNat)
     case atStart=>exact⟨p0,Nat.le_refl _,Nat.le_of_lt hlt,rfl,by rw[gD];rfl,by rw[gD];rfl,by rw[gD];exact HD0.out,HK0.out⟩
     case round =>
      as_aux_lemma =>
       obtain⟨j,hp,hj,rfl,rfl,rfl,hD,hK⟩:=hrel;have so:=HSO.out j hp hj;have HD:=hid hD;have HK:=hid hK;obtain⟨S,hS⟩:∃S,iI neg (aK s p0 j)=S:=⟨_,rfl⟩
       obtain⟨r,hr⟩:∃r,aR (aK s p0 j)=r:=⟨_,rfl⟩
       rw[hS]at so HD
       rw[hr]at so ⊢
       have e1:=so.nd;have e2:=so.le;have e3:-100≤S.dp∧S.dp≤100:=by
        have:=aAv s p0 q HN.out j hp hj;rw[hr]at this
        have h1:=this.lo;have h2:=this.hi;have h3:=so.dp;omega
       obtain⟨e3,e4⟩:=e3;obtain⟨n,hn⟩:∃n,S.nd=n:=⟨_,rfl⟩
       have c800:wr.cell? ⟨B,800,none⟩=some (.int .i64 n):=by rw[←hn];exact HD.out.nd
       have c801:wr.cell? ⟨B,801,none⟩=some (.int .i64 S.dp):=HD.out.dp;have f800:=HD.out.fz 800;have f801:=HD.out.fz 801;rw[hn]at e2
       have HSN:=hid hn;have HS2:=hid hS;have HR2:=hid hr;have HSO2:=hid so;clear hD hK hS hr hn e1 so;by_cases hjq:j<q
       ·have hjs:j<s.size:=by omega
        have hcc:=HN.out.ch j hjs hp hjq;have nx1:aR (aK s p0 (j+1))=dS r s[j]:=by rw[hJ s p0 j hp hjs,dP,HR2.out]
        have nx2:iI neg (aK s p0 (j+1))=rM S s[j]:=by rw[hJ s p0 j hp hjs,aAD,HS2.out]
        by_cases h46:s[j]=46
        ·have hd:=HN.out.dots j hjs hp hjq h46;rw[HR2.out]at hd
         have f1:((s[j].toNat:Int)==95)=false:=by rw[h46];rfl
         have f2:((s[j].toNat:Int)==46)=true:=by rw[h46];rfl
         have n1:(aR (aK s p0 (j+1))).dot=true∧(aR (aK s p0 (j+1))).dig=r.dig:=by rw[nx1];unfold dS;rw[if_pos h46];exact⟨rfl,rfl⟩
         have n2:iI neg (aK s p0 (j+1))={ S with dp:=S.nd }:=by rw[nx2];unfold rM;rw[if_pos h46]
         have N1:=hid n1;have N2:=hid n2;rw[hd];clear hcc h46 nx1 nx2 n1 n2 hd;as_aux_lemma =>
          go_wp2_with fail
          go_roundw
          case measure=>(simp[intOf];try omega)
          case rel=>exact⟨j+1,by omega,by omega,by go_num,by rw[N1.out.1],by rw[N1.out.2],by rw[N2.out];exact HD.out.setDpV _ _ (by rw[HSN.out]),HK.out.setCell _ _ (fun _=>rfl)⟩
        ·have hdig:aS s[j]=true:=by simpa [dE,h46]using hcc
         obtain⟨d1,d2⟩:=eQ s[j] hdig;have f1:((s[j].toNat:Int)==95)=false:=by simp;omega
         have f2:((s[j].toNat:Int)==46)=false:=by simp;omega
         by_cases hz:s[j]=48∧n=0
         ·obtain⟨hz1,hz2⟩:=hz;have f3:((s[j].toNat:Int)==48)=true:=by rw[hz1];rfl
          have f4:((n:Int)==0)=true:=by simp[hz2]
          have hnr:r.nd=0:=by have:=HSO2.out.nd;have:=HSN.out;omega
          have n1:(aR (aK s p0 (j+1))).dot=r.dot∧(aR (aK s p0 (j+1))).dig=true:=by rw[nx1];unfold dS;rw[if_neg h46,if_pos ⟨hz1,hnr⟩];exact⟨rfl,rfl⟩
          have n2:iI neg (aK s p0 (j+1))={ S with dp:=S.dp-1 }:=by rw[nx2];unfold rM;rw[if_neg h46,if_pos ⟨hz1,by rw[HSN.out];exact hz2⟩]
          have N1:=hid n1;have N2:=hid n2;clear hcc h46 nx1 nx2 n1 n2 hz1 hz2 hnr hdig;as_aux_lemma =>
           go_wp2_with fail
           go_roundw
           case measure=>(simp[intOf];try omega)
           case rel=>exact⟨j+1,by omega,by omega,by go_num,by rw[N1.out.1],by rw[N1.out.2],by rw[N2.out];exact HD.out.setDp _,HK.out.setCell _ _ (fun _=>rfl)⟩
         ·have hnr:¬(s[j]=48∧r.nd=0):=by
           intro g;have:=HSO2.out.nd;have:=HSN.out;exact hz ⟨g.1,by omega⟩
          have n1:(aR (aK s p0 (j+1))).dot=r.dot∧(aR (aK s p0 (j+1))).dig=true:=by
           rw[nx1];unfold dS;rw[if_neg h46,if_neg hnr];split<;>exact⟨rfl,rfl⟩
          have n2:iI neg (aK s p0 (j+1))={ S with D:=S.D.set n s[j],nd:=n+1 }:=by rw[nx2];unfold rM;rw[if_neg h46,if_neg (by rw[HSN.out];exact hz),HSN.out]
          have N1:=hid n1;have N2:=hid n2;have fB:=HD.out.fz n;have n8:n<800:=by omega
          obtain⟨cold,cw⟩:∃x:Value,wr.cell? ⟨B,n,none⟩=some x:=⟨_,HD.out.byte n (by rw[HSO2.out.len];exact n8)⟩
          clear hcc nx1 nx2 n1 n2 hnr hdig;by_cases h48:s[j]=48
          ·have f3:((s[j].toNat:Int)==48)=true:=by rw[h48];rfl
           have f4:((n:Int)==0)=false:=by
            have:n≠0:=fun e=>hz ⟨h48,e⟩
            simp;omega
           clear h46 hz h48;as_aux_lemma =>
            go_wp2_with fail
            go_still_tail 11,(by kernel_rfl)
            go_wp2_with fail
            go_roundw
            case measure=>(simp[intOf];try omega)
            case rel=>exact⟨j+1,by omega,by omega,by go_num,by rw[N1.out.1],by rw[N1.out.2],by rw[N2.out];exact(((HD.out.drewN 1).setByte n n8 s[j] _ rfl).setNdV (n+1) _ (by omega)),((HK.out.drewN 1).setCell _ _ (fun _=>rfl)).setCell _ _ (fun _=>rfl)⟩
          ·have f3:((s[j].toNat:Int)==48)=false:=by simp;intro e;exact h48 (UInt8.toNat_inj.1 (by simp at e ⊢;omega))
           clear h46 hz h48;as_aux_lemma =>
            go_wp2_with fail
            go_still_tail 11,(by kernel_rfl)
            go_wp2_with fail
            go_roundw
            case measure=>(simp[intOf];try omega)
            case rel=>exact⟨j+1,by omega,by omega,by go_num,by rw[N1.out.1],by rw[N1.out.2],by rw[N2.out];exact(((HD.out.drewN 1).setByte n n8 s[j] _ rfl).setNdV (n+1) _ (by omega)),((HK.out.drewN 1).setCell _ _ (fun _=>rfl)).setCell _ _ (fun _=>rfl)⟩
       ·obtain rfl:j=q:=by omega
        have hdq:r.dig=true:=by rw[←HR2.out];exact HDG.out
        rw[hdq];by_cases hqs:j=s.size
        ·have hnl:¬j<s.size:=by omega
         have HQ:=hid hqs;clear hqs hdq;as_aux_lemma =>
          go_wp2_with fail
          go_meet
          case rel=>exact⟨rfl,by rw[HR2.out],rfl,by rw[HS2.out];exact HD.out,HK.out⟩
        ·have hjs:j<s.size:=by omega
         rcases HN.out.stop hjs with he|he
         all_goals
          have f1:((s[j].toNat:Int)==95)=false:=by rw[he];rfl
          have f2:((s[j].toNat:Int)==46)=false:=by rw[he];rfl
          have d1:57<s[j].toNat:=by rw[he];decide
          clear he hdq;as_aux_lemma =>
           go_wp2_with fail
           go_meet
           case rel=>exact⟨rfl,by rw[HR2.out],rfl,by rw[HS2.out];exact HD.out,HK.out⟩
   case rest =>
    as_aux_lemma =>
     obtain⟨rfl,rfl,rfl,hD,hK⟩:=hcut;have so:=HSO.out q (Nat.le_of_lt hlt) oI;have rb:=aAv s p0 q HN.out q (Nat.le_of_lt hlt) oI;obtain⟨S,hS⟩:∃S,iI neg (aK s p0 q)=S:=⟨_,rfl⟩
     have hset:aDw neg (aK s p0 q) ev={ S with dp:=(aR (aK s p0 q)).place+ev }:=by unfold aDw;rw[hS]
     rw[←HRR.out]at so rb hset ⊢
     rw[hS]at so hD
     have e2:=so.le;have e1:=so.nd;have e5:=so.dp;have p1:-100≤R.place∧R.place≤100:=by
      have h1:=rb.lo;have h2:=rb.hi;unfold RS.place;split<;>omega
     obtain⟨p1,p2⟩:=p1;have hplace:R.place=if R.dot=true then S.dp else S.nd:=by unfold RS.place;rw[e5,e1]
     obtain⟨n,hn⟩:∃n,S.nd=n:=⟨_,rfl⟩
     have HD:=hid hD;have HK:=hid hK;have HSET:=hid hset;have HPLA:=hid hplace;have HSN:=hid hn;have c800:wc.cell? ⟨B,800,none⟩=some (.int .i64 n):=by rw[←hn];exact hD.nd
     have c801:wc.cell? ⟨B,801,none⟩=some (.int .i64 S.dp):=hD.dp;have f801:=hD.fz 801;rw[hn]at e2
     clear hD hK hS hset hplace so rb e1 e5 hn;go_upto_if 120 with fail
     go_cut [5,6] (fun i dd wx=>i=.int .i64 q∧dd=.bool R.dot∧aE wx B { S with dp:=R.place }∧aG (· = B) w wx)
     case first =>
      as_aux_lemma =>
       have hpl:=HPLA.out;cases hdot:R.dot
       ·rw[hdot]at hpl
        have HPL:=hid hpl;clear hpl;as_aux_lemma =>
         go_wp2_with fail
         go_meet
         case rel=>exact⟨rfl,by rw[hdot],HD.out.setDpV _ _ (by rw[HPL.out,if_neg (by decide),HSN.out]),HK.out.setCell _ _ (fun _=>rfl)⟩
       ·rw[hdot]at hpl
        have HPL:=hid hpl;clear hpl;as_aux_lemma =>
         go_wp2_with fail
         go_meet
         case rel=>exact⟨rfl,by rw[hdot],by have e:=HPL.out;simp only[if_true]at e;rw[e];exact HD.out,HK.out⟩
     case rest =>
      as_aux_lemma =>
       obtain⟨rfl,rfl,hD3,hK3⟩:=hcut;have HD3:=hid hD3;have HK3:=hid hK3;have c801:wc.cell? ⟨B,801,none⟩=some (.int .i64 R.place):=hD3.dp;have f801:=hD3.fz 801;clear hD3 hK3;have hq1:=HE.out;rcases hq1 with⟨hq,rfl⟩|⟨hq,t,es,hsg,htl,hds,rfl⟩
       ·have hnl:¬q<s.size:=by omega
        have HQ:=hid hq;have eqs:((q:Int) !=s.size)=false:=bne_eq_false_iff_eq.2 (by omega);clear hq;as_aux_lemma =>
         go_wp2_with fail
         go_ret;refine⟨rfl,?_,HK3.out⟩;rw[HSET.out,Int.add_zero];exact HD3.out
       ·have hqs:q<s.size:=by omega
        have hl:=aLk s[q] (HN.out.stop hqs);go_upto_if 138 with(go_at_call 251;refine(zS _ _).mono ?_;rintro e w' ⟨rfl,rfl⟩)
        go_cut [5] (fun i wx=>i=.int .i64 s.size∧aE wx B { S with dp:=R.place+(cK (aK s t s.size):Nat)*es }∧aG (· = B) wc wx)
        case first =>
         as_aux_lemma =>
          have hds0:=hds t htl oI;have HDS:=hid hds;rcases hsg with⟨rfl,rfl,hc⟩|⟨rfl,rfl,hc⟩|⟨rfl,rfl,hc⟩
          ·have hb:=eQ _ hc;have f1:((s[q+1].toNat:Int)==43)=false:=by simp;omega
           have f2:((s[q+1].toNat:Int)==45)=false:=by simp;omega
           have f3:=hb.1;have f4:=hb.2;clear hb hc hds0 hds hl;go_wp2_with fail
           go_loopg [5,9] (s.size-(q+1)) (fun g i e wx=>∃j,q+1≤j∧j≤s.size∧i=.int .i64 (j:Nat)∧e=.int .i64 (cK (aK s (q+1) j):Nat)∧g=s.size-j∧wx=wc)
           case atStart=>exact⟨q+1,Nat.le_refl _,by omega,by go_num,by rw[gD];rfl,rfl,rfl⟩
           case round =>
            as_aux_lemma =>
             obtain⟨j,hj1,hj2,rfl,rfl,hg,rfl⟩:=hrel;have HG:=hid hg;have ef:=mC s (q+1) j hj1 hj2 HDS.out;obtain⟨E,hEE⟩:∃E,E=cK (aK s (q+1) j):=⟨_,rfl⟩
             rw[←hEE]at ef
             rw[←hEE];have HE2:=hid hEE;clear hg hEE;by_cases hlt:j<s.size
             ·have hb:=eQ _ (HDS.out j hlt hj1);have g1:((s[j].toNat:Int)==95)=false:=by simp;omega
              have g3:=hb.1;have g4:=hb.2;clear hb;have hnx:cK (aK s (q+1) (j+1))=eT E s[j]:=by rw[hJ s (q+1) j hj1 hlt,gX,←HE2.out]
              have HNX:=hid hnx;clear hnx;by_cases he:E<10000
              ·as_aux_lemma =>
                go_wp2_with fail
                go_roundg (s.size-(j+1))
                case measure=>have:=HG.out;omega
                case rel=>exact⟨j+1,by omega,by omega,by go_num,by rw[HNX.out];unfold eT;rw[if_pos he];go_num,rfl,by trivial⟩
              ·as_aux_lemma =>
                go_wp2_with fail
                go_roundg (s.size-(j+1))
                case measure=>have:=HG.out;omega
                case rel=>exact⟨j+1,by omega,by omega,by go_num,by rw[HNX.out];unfold eT;rw[if_neg he],rfl,by trivial⟩
             ·have hje:s.size=j:=by omega
              have HJE:=hid hje;clear hje;as_aux_lemma =>
               go_wp2_with fail
               go_meet
               case rel =>
                refine⟨by rw[HJE.out],?_,(aG.refl (· = B) _).setCell _ _ (fun _=>rfl)⟩;refine HD3.out.setDpV _ _ ?_;rw[HJE.out,←HE2.out];first|rfl|omega
          ·have hb:=eQ _ (hds (q+1+1) (by omega) (by omega));have f1:((s[q+1].toNat:Int)==43)=true:=by rw[hc];rfl
           have f3:=hb.1;have f4:=hb.2;clear hb hc hds0 hds hl;go_wp2_with fail
           go_loopg [5,9] (s.size-(q+2)) (fun g i e wx=>∃j,q+2≤j∧j≤s.size∧i=.int .i64 (j:Nat)∧e=.int .i64 (cK (aK s (q+2) j):Nat)∧g=s.size-j∧wx=wc)
           case atStart=>exact⟨q+2,Nat.le_refl _,by omega,by go_num,by rw[gD];rfl,rfl,rfl⟩
           case round =>
            as_aux_lemma =>
             obtain⟨j,hj1,hj2,rfl,rfl,hg,rfl⟩:=hrel;have HG:=hid hg;have ef:=mC s (q+2) j hj1 hj2 HDS.out;obtain⟨E,hEE⟩:∃E,E=cK (aK s (q+2) j):=⟨_,rfl⟩
             rw[←hEE]at ef
             rw[←hEE];have HE2:=hid hEE;clear hg hEE;by_cases hlt:j<s.size
             ·have hb:=eQ _ (HDS.out j hlt hj1);have g1:((s[j].toNat:Int)==95)=false:=by simp;omega
              have g3:=hb.1;have g4:=hb.2;clear hb;have hnx:cK (aK s (q+2) (j+1))=eT E s[j]:=by rw[hJ s (q+2) j hj1 hlt,gX,←HE2.out]
              have HNX:=hid hnx;clear hnx;by_cases he:E<10000
              ·as_aux_lemma =>
                go_wp2_with fail
                go_roundg (s.size-(j+1))
                case measure=>have:=HG.out;omega
                case rel=>exact⟨j+1,by omega,by omega,by go_num,by rw[HNX.out];unfold eT;rw[if_pos he];go_num,rfl,by trivial⟩
              ·as_aux_lemma =>
                go_wp2_with fail
                go_roundg (s.size-(j+1))
                case measure=>have:=HG.out;omega
                case rel=>exact⟨j+1,by omega,by omega,by go_num,by rw[HNX.out];unfold eT;rw[if_neg he],rfl,by trivial⟩
             ·have hje:s.size=j:=by omega
              have HJE:=hid hje;clear hje;as_aux_lemma =>
               go_wp2_with fail
               go_meet
               case rel =>
                refine⟨by rw[HJE.out],?_,(aG.refl (· = B) _).setCell _ _ (fun _=>rfl)⟩;refine HD3.out.setDpV _ _ ?_;rw[HJE.out,←HE2.out];first|rfl|omega
          ·have hb:=eQ _ (hds (q+1+1) (by omega) (by omega));have f1:((s[q+1].toNat:Int)==43)=false:=by rw[hc];rfl
           have f2:((s[q+1].toNat:Int)==45)=true:=by rw[hc];rfl
           have f3:=hb.1;have f4:=hb.2;clear hb hc hds0 hds hl;go_wp2_with fail
           go_loopg [5,9] (s.size-(q+2)) (fun g i e wx=>∃j,q+2≤j∧j≤s.size∧i=.int .i64 (j:Nat)∧e=.int .i64 (cK (aK s (q+2) j):Nat)∧g=s.size-j∧wx=wc)
           case atStart=>exact⟨q+2,Nat.le_refl _,by omega,by go_num,by rw[gD];rfl,rfl,rfl⟩
           case round =>
            as_aux_lemma =>
             obtain⟨j,hj1,hj2,rfl,rfl,hg,rfl⟩:=hrel;have HG:=hid hg;have ef:=mC s (q+2) j hj1 hj2 HDS.out;obtain⟨E,hEE⟩:∃E,E=cK (aK s (q+2) j):=⟨_,rfl⟩
             rw[←hEE]at ef
             rw[←hEE];have HE2:=hid hEE;clear hg hEE;by_cases hlt:j<s.size
             ·have hb:=eQ _ (HDS.out j hlt hj1);have g1:((s[j].toNat:Int)==95)=false:=by simp;omega
              have g3:=hb.1;have g4:=hb.2;clear hb;have hnx:cK (aK s (q+2) (j+1))=eT E s[j]:=by rw[hJ s (q+2) j hj1 hlt,gX,←HE2.out]
              have HNX:=hid hnx;clear hnx;by_cases he:E<10000
              ·as_aux_lemma =>
                go_wp2_with fail
                go_roundg (s.size-(j+1))
                case measure=>have:=HG.out;omega
                case rel=>exact⟨j+1,by omega,by omega,by go_num,by rw[HNX.out];unfold eT;rw[if_pos he];go_num,rfl,by trivial⟩
              ·as_aux_lemma =>
                go_wp2_with fail
                go_roundg (s.size-(j+1))
                case measure=>have:=HG.out;omega
                case rel=>exact⟨j+1,by omega,by omega,by go_num,by rw[HNX.out];unfold eT;rw[if_neg he],rfl,by trivial⟩
             ·have hje:s.size=j:=by omega
              have HJE:=hid hje;clear hje;as_aux_lemma =>
               go_wp2_with fail
               go_meet
               case rel =>
                refine⟨by rw[HJE.out],?_,(aG.refl (· = B) _).setCell _ _ (fun _=>rfl)⟩;refine HD3.out.setDpV _ _ ?_;rw[HJE.out,←HE2.out];first|rfl|omega
        case rest =>
         as_aux_lemma =>
          obtain⟨rfl,hD4,hK4⟩:=hcut;have HD4:=hid hD4;have HK4:=hid hK4;have HSET2:=HSET;clear hD4 hK4 c801 f801 hl;as_aux_lemma =>
           go_wp2_with fail
           go_ret;refine⟨rfl,?_,HK3.out.trans HK4.out⟩;rw[HSET2.out];exact HD4.out
open Go.RowKit
theorem aKX (s:ByteArray)(hn:iG s.data.toList=true):aGi s:=by
 obtain⟨neg,p0,q,ev,hs,hsg,N,hE,SP⟩:=aFK s hn;have hlt:=N.lt;have hle:=N.le;have hch:=tX s p0 q N q (Nat.le_of_lt hlt) oI;have hpl:=kX s p0 q (Nat.le_of_lt hlt) hle;have RD:wN s (aR (aK s p0 q)).mant ((aR (aK s p0 q)).expo ev) neg (aR (aK s p0 q)).trunc:=fun w=>zN s neg p0 q w hs hsg N ev hE
 have rb:=aAv s p0 q N q (Nat.le_of_lt hlt) oI;have so:=aDo neg (aK s p0 q) (by omega) hch;have few:=aB7 (aK s p0 q) hch;have SF:∀w B,aE w B aBg→Calls Tryz.prog 240 #[.pointer (some ⟨B,0,none⟩),.string s] w fun e w'=>e=.returned (.bool true)∧aE w' B (aDw neg (aK s p0 q) ev)∧aG (· = B) w w' :=
  fun w B h=>aLN B s neg p0 q w h hs hsg N ev hE
 have hm:=rb.mant;have h19:=aLo (aR (aK s p0 q)).ndM (by have:=rb.ndM;omega);refine aKv s _ _ neg _ hs SP RD (by omega) (aDw neg (aK s p0 q) ev) ⟨so.len,?_,so.dig,so.head⟩ so.neg ?_ SF
 ·have:=so.le;show(iI neg (aK s p0 q)).nd≤800;omega
 ·intro hm0 ht;have h20:20≤(aR (aK s p0 q)).nd:=by
   refine Nat.le_of_not_lt fun h=>?_
   rw[few (by omega)]at ht
   cases ht
  refine⟨?_,?_⟩
  ·show 1≤(iI neg (aK s p0 q)).nd;have:=so.nd;omega
  ·unfold RS.expo;rw[if_neg hm0];have:=rb.ndM;show(aR (aK s p0 q)).place+ev-_+19=(aR (aK s p0 q)).place+ev;omega
open Go.RowKit
theorem aMe (w0:World)(T0:aC w0)(v:ByteArray)(hv:v.size≤maxLen):(∃t,aLA v t)∨aLt v:=by
 rcases aG2 aKX v hv with⟨neg,b,hb,hp⟩|h
 ·obtain⟨t,ht⟩:=aMQ neg b hb;refine .inl ⟨t,ht.sz,?_,fun w T=>aLp v _ t w T hp ht.pr,ht.fx⟩;cases hn:iG t.data.toList with
  | true=>rfl
  | false =>
   have h1:=fun w (_:aC w)=>aDr t w (by have:=ht.sz;unfold maxLen;omega) hn
   have h2:=aGP t w0 T0 (fun w T=>gW (h1 w T));have h3:=ht.fx w0 T0;have:=aBV (by kernel_rfl) h3 h2;simp at this
 ·exact .inr fun w T=>aGP v w T h
open Go.RowKit
theorem jC (v:ByteArray)(lo hi:Nat)(n:Int)(b:Bool)(h:eZ v lo hi n b)(w:World):Calls Tryz.prog 144 #[.string v,.int .i64 lo,.int .i64 hi] w fun e w'=>e=.returned (.tuple #[.string v,.bool b])∧Below w.heap.size w w':=by
 have H1:=hid h.one;clear h;go_enter Tryz.func144,Tryz.ntmps144
 go_wp2_with fail
 refine(H1.out _).mono ?_;rintro e w1 ⟨rfl,B1⟩;have HB:=hid B1;clear B1;go_wp2
 go_ret2;exact⟨rfl,HB.out⟩
theorem aB9 (e v:ByteArray)(hv:v.size≤140737488355328)(b:Bool)(hb:Hid (b=true↔tY v)):cM e uJ v v b:=by
 intro w T;have HL:=hid (aJb v hv b hb);clear T;unfold uJ;go_enter Tryz.func83,Tryz.ntmps83
 go_wp2_with fail
 refine(HL.out _).mono ?_;rintro x w1 ⟨rfl,B1⟩;have HB:=hid B1;clear B1;go_wp2
 go_ret2;exact⟨rfl,HB.out⟩
theorem aNM:(⟨#[105,109,103]⟩:ByteArray)++⟨#[32]⟩=⟨#[105,109,103,32]⟩:=by decide
theorem aNK:(⟨#[105,109,103,32]⟩:ByteArray)++⟨#[115,114,99]⟩=⟨#[105,109,103,32,115,114,99]⟩:=by decide
theorem yJ (v:ByteArray)(b:Bool)(hb:Hid (kE zO (dI v.data.toList)=b))(hv:v.size≤1000000000):cM jX aDY v (rP v) b:=by
 intro w T;have HT:=hid T;clear T;unfold jX aDY;have c1:=aNM;have c2:=aNK;go_enter Tryz.func83,Tryz.ntmps83
 go_wp2_with fail
 have hB:Below w.heap.size w (w.alloc (.cells #[Value.string ⟨#[104,116,116,112]⟩,Value.string ⟨#[104,116,116,112,115]⟩] 9)):=(Below.refl _ w).alloc oI _;have hS:pG (w.alloc (.cells #[Value.string ⟨#[104,116,116,112]⟩,Value.string ⟨#[104,116,116,112,115]⟩] 9)) w.heap.size 0 zO:=by
  intro j hj;rw[Nat.zero_add,cell_of_row _ w.heap.size j _ 9 (0,0) (heap_alloc_new w _)];have:∀j<2,(#[Value.string ⟨#[104,116,116,112]⟩,Value.string ⟨#[104,116,116,112,115]⟩]:Array Value)[j]?=some (Value.string (zO.getD j ByteArray.empty)):=by
   intro j hj;match j,hj with
   | 0,_=>rfl
   | 1,_=>rfl
  exact this j hj
 refine(aB5 v hv w.heap.size 0 2 2 zO rfl (by omega) _ (HT.out.below hB oI) hS (by simp) b hb).mono ?_;rintro x W1 ⟨rfl,B1⟩;have HB1:=hid (hB.trans (B1.mono (by simp)));clear B1 hB hS;go_wp2
 go_ret2;exact⟨rfl,HB1.out⟩
theorem aNX:(⟨#[105,109,103]⟩:ByteArray)++⟨#[32]⟩=⟨#[105,109,103,32]⟩:=by decide
theorem aNo:(⟨#[105,109,103,32]⟩:ByteArray)++⟨#[97,108,116]⟩=⟨#[105,109,103,32,97,108,116]⟩:=by decide
theorem aEx (v:ByteArray)(hv:v.size≤1000000000):cM jX aDL v (bT v) true:=by
 intro w T;have HX:=hid (nZ v hv w T);clear T;unfold jX aDL;have c1:=aNX;have c2:=aNo;go_enter Tryz.func83,Tryz.ntmps83
 go_wp2_with fail
 refine HX.out.mono ?_;rintro x W1 ⟨rfl,B1⟩;have HB1:=hid B1;clear B1;go_wp2
 go_ret2;exact⟨rfl,HB1.out⟩
theorem aN6:(⟨#[105,109,103]⟩:ByteArray)++⟨#[32]⟩=⟨#[105,109,103,32]⟩:=by decide
theorem aNv:(⟨#[105,109,103,32]⟩:ByteArray)++⟨#[104,101,105,103,104,116]⟩=⟨#[105,109,103,32,104,101,105,103,104,116]⟩:=by decide
theorem aBF (v:ByteArray)(x:Int)(b:Bool)(h:eZ v 0 9999 x b):cM jX qP v v b:=by
 intro w T;have HX:=hid (jC v 0 9999 x b h);clear T;unfold jX qP;have c1:=aN6;have c2:=aNv;go_enter Tryz.func83,Tryz.ntmps83
 go_wp2_with fail
 refine(HX.out _).mono ?_;rintro x W1 ⟨rfl,B1⟩;have HB1:=hid B1;clear B1;go_wp2
 go_ret2;exact⟨rfl,HB1.out⟩
theorem aNw:(⟨#[105,109,103]⟩:ByteArray)++⟨#[32]⟩=⟨#[105,109,103,32]⟩:=by decide
theorem aNq:(⟨#[105,109,103,32]⟩:ByteArray)++⟨#[119,105,100,116,104]⟩=⟨#[105,109,103,32,119,105,100,116,104]⟩:=by decide
theorem aCE (v:ByteArray)(x:Int)(b:Bool)(h:eZ v 0 9999 x b):cM jX sS v v b:=by
 intro w T;have HX:=hid (jC v 0 9999 x b h);clear T;unfold jX sS;have c1:=aNw;have c2:=aNq;go_enter Tryz.func83,Tryz.ntmps83
 go_wp2_with fail
 refine(HX.out _).mono ?_;rintro x W1 ⟨rfl,B1⟩;have HB1:=hid B1;clear B1;go_wp2
 go_ret2;exact⟨rfl,HB1.out⟩
theorem aNs:(⟨#[111,108]⟩:ByteArray)++⟨#[32]⟩=⟨#[111,108,32]⟩:=by decide
theorem aOa:(⟨#[111,108,32]⟩:ByteArray)++⟨#[115,116,97,114,116]⟩=⟨#[111,108,32,115,116,97,114,116]⟩:=by decide
theorem aDq (v:ByteArray)(x:Int)(b:Bool)(h:eZ v 0 999999 x b):cM sOl tG v v b:=by
 intro w T;have HX:=hid (jC v 0 999999 x b h);clear T;unfold sOl tG;have c1:=aNs;have c2:=aOa;go_enter Tryz.func83,Tryz.ntmps83
 go_wp2_with fail
 refine(HX.out _).mono ?_;rintro x W1 ⟨rfl,B1⟩;have HB1:=hid B1;clear B1;go_wp2
 go_ret2;exact⟨rfl,HB1.out⟩
theorem aOh:(⟨#[116,100]⟩:ByteArray)++⟨#[32]⟩=⟨#[116,100,32]⟩:=by decide
theorem aNZ:(⟨#[116,100,32]⟩:ByteArray)++⟨#[99,111,108,115,112,97,110]⟩=⟨#[116,100,32,99,111,108,115,112,97,110]⟩:=by decide
theorem aA7 (v:ByteArray)(x:Int)(b:Bool)(h:eZ v 1 1000 x b):cM sTd kW v v b:=by
 intro w T;have HX:=hid (jC v 1 1000 x b h);clear T;unfold sTd kW;have c1:=aOh;have c2:=aNZ;go_enter Tryz.func83,Tryz.ntmps83
 go_wp2_with fail
 refine(HX.out _).mono ?_;rintro x W1 ⟨rfl,B1⟩;have HB1:=hid B1;clear B1;go_wp2
 go_ret2;exact⟨rfl,HB1.out⟩
theorem aOi:(⟨#[116,100]⟩:ByteArray)++⟨#[32]⟩=⟨#[116,100,32]⟩:=by decide
theorem aNE:(⟨#[116,100,32]⟩:ByteArray)++⟨#[114,111,119,115,112,97,110]⟩=⟨#[116,100,32,114,111,119,115,112,97,110]⟩:=by decide
theorem aBm (v:ByteArray)(x:Int)(b:Bool)(h:eZ v 1 1000 x b):cM sTd kJ v v b:=by
 intro w T;have HX:=hid (jC v 1 1000 x b h);clear T;unfold sTd kJ;have c1:=aOi;have c2:=aNE;go_enter Tryz.func83,Tryz.ntmps83
 go_wp2_with fail
 refine(HX.out _).mono ?_;rintro x W1 ⟨rfl,B1⟩;have HB1:=hid B1;clear B1;go_wp2
 go_ret2;exact⟨rfl,HB1.out⟩
theorem aOk:(⟨#[116,104]⟩:ByteArray)++⟨#[32]⟩=⟨#[116,104,32]⟩:=by decide
theorem aOl:(⟨#[116,104,32]⟩:ByteArray)++⟨#[99,111,108,115,112,97,110]⟩=⟨#[116,104,32,99,111,108,115,112,97,110]⟩:=by decide
theorem aBu (v:ByteArray)(x:Int)(b:Bool)(h:eZ v 1 1000 x b):cM sTh kW v v b:=by
 intro w T;have HX:=hid (jC v 1 1000 x b h);clear T;unfold sTh kW;have c1:=aOk;have c2:=aOl;go_enter Tryz.func83,Tryz.ntmps83
 go_wp2_with fail
 refine(HX.out _).mono ?_;rintro x W1 ⟨rfl,B1⟩;have HB1:=hid B1;clear B1;go_wp2
 go_ret2;exact⟨rfl,HB1.out⟩
theorem aN1:(⟨#[116,104]⟩:ByteArray)++⟨#[32]⟩=⟨#[116,104,32]⟩:=by decide
theorem aNI:(⟨#[116,104,32]⟩:ByteArray)++⟨#[114,111,119,115,112,97,110]⟩=⟨#[116,104,32,114,111,119,115,112,97,110]⟩:=by decide
theorem aBx (v:ByteArray)(x:Int)(b:Bool)(h:eZ v 1 1000 x b):cM sTh kJ v v b:=by
 intro w T;have HX:=hid (jC v 1 1000 x b h);clear T;unfold sTh kJ;have c1:=aN1;have c2:=aNI;go_enter Tryz.func83,Tryz.ntmps83
 go_wp2_with fail
 refine(HX.out _).mono ?_;rintro x W1 ⟨rfl,B1⟩;have HB1:=hid B1;clear B1;go_wp2
 go_ret2;exact⟨rfl,HB1.out⟩
theorem aM6:(⟨#[109,101,116,101,114]⟩:ByteArray)++⟨#[32]⟩=⟨#[109,101,116,101,114,32]⟩:=by decide
theorem aNg:(⟨#[109,101,116,101,114,32]⟩:ByteArray)++⟨#[109,97,120]⟩=⟨#[109,101,116,101,114,32,109,97,120]⟩:=by decide
theorem aCD (v t:ByteArray)(b:Bool)(h:∀w,aC w→Calls Tryz.prog 20 #[.string v] w fun e w'=>e=.returned (.tuple #[.string t,.bool b])∧Below w.heap.size w w'):cM jP wV v t b:=by
 intro w T;have HX:=hid (h w T);clear T h;unfold jP wV;have c1:=aM6;have c2:=aNg;go_enter Tryz.func83,Tryz.ntmps83
 go_wp2_with fail
 refine HX.out.mono ?_;rintro x W1 ⟨rfl,B1⟩;have HB1:=hid B1;clear B1;go_wp2
 go_ret2;exact⟨rfl,HB1.out⟩
theorem aL6:(⟨#[109,101,116,101,114]⟩:ByteArray)++⟨#[32]⟩=⟨#[109,101,116,101,114,32]⟩:=by decide
theorem aME:(⟨#[109,101,116,101,114,32]⟩:ByteArray)++⟨#[118,97,108,117,101]⟩=⟨#[109,101,116,101,114,32,118,97,108,117,101]⟩:=by decide
theorem aAb (v t:ByteArray)(b:Bool)(h:∀w,aC w→Calls Tryz.prog 20 #[.string v] w fun e w'=>e=.returned (.tuple #[.string t,.bool b])∧Below w.heap.size w w'):cM jP oU v t b:=by
 intro w T;have HX:=hid (h w T);clear T h;unfold jP oU;have c1:=aL6;have c2:=aME;go_enter Tryz.func83,Tryz.ntmps83
 go_wp2_with fail
 refine HX.out.mono ?_;rintro x W1 ⟨rfl,B1⟩;have HB1:=hid B1;clear B1;go_wp2
 go_ret2;exact⟨rfl,HB1.out⟩
theorem aMh:(⟨#[109,101,116,101,114]⟩:ByteArray)++⟨#[32]⟩=⟨#[109,101,116,101,114,32]⟩:=by decide
theorem aMb:(⟨#[109,101,116,101,114,32]⟩:ByteArray)++⟨#[104,105,103,104]⟩=⟨#[109,101,116,101,114,32,104,105,103,104]⟩:=by decide
theorem aBG (v t:ByteArray)(b:Bool)(h:∀w,aC w→Calls Tryz.prog 20 #[.string v] w fun e w'=>e=.returned (.tuple #[.string t,.bool b])∧Below w.heap.size w w'):cM jP aCU v t b:=by
 intro w T;have HX:=hid (h w T);clear T h;unfold jP aCU;have c1:=aMh;have c2:=aMb;go_enter Tryz.func83,Tryz.ntmps83
 go_wp2_with fail
 refine HX.out.mono ?_;rintro x W1 ⟨rfl,B1⟩;have HB1:=hid B1;clear B1;go_wp2
 go_ret2;exact⟨rfl,HB1.out⟩
theorem aMm:(⟨#[109,101,116,101,114]⟩:ByteArray)++⟨#[32]⟩=⟨#[109,101,116,101,114,32]⟩:=by decide
theorem aM3:(⟨#[109,101,116,101,114,32]⟩:ByteArray)++⟨#[108,111,119]⟩=⟨#[109,101,116,101,114,32,108,111,119]⟩:=by decide
theorem aCT (v t:ByteArray)(b:Bool)(h:∀w,aC w→Calls Tryz.prog 20 #[.string v] w fun e w'=>e=.returned (.tuple #[.string t,.bool b])∧Below w.heap.size w w'):cM jP aGw v t b:=by
 intro w T;have HX:=hid (h w T);clear T h;unfold jP aGw;have c1:=aMm;have c2:=aM3;go_enter Tryz.func83,Tryz.ntmps83
 go_wp2_with fail
 refine HX.out.mono ?_;rintro x W1 ⟨rfl,B1⟩;have HB1:=hid B1;clear B1;go_wp2
 go_ret2;exact⟨rfl,HB1.out⟩
theorem aMA:(⟨#[109,101,116,101,114]⟩:ByteArray)++⟨#[32]⟩=⟨#[109,101,116,101,114,32]⟩:=by decide
theorem aMw:(⟨#[109,101,116,101,114,32]⟩:ByteArray)++⟨#[109,105,110]⟩=⟨#[109,101,116,101,114,32,109,105,110]⟩:=by decide
theorem aCM (v t:ByteArray)(b:Bool)(h:∀w,aC w→Calls Tryz.prog 20 #[.string v] w fun e w'=>e=.returned (.tuple #[.string t,.bool b])∧Below w.heap.size w w'):cM jP aFv v t b:=by
 intro w T;have HX:=hid (h w T);clear T h;unfold jP aFv;have c1:=aMA;have c2:=aMw;go_enter Tryz.func83,Tryz.ntmps83
 go_wp2_with fail
 refine HX.out.mono ?_;rintro x W1 ⟨rfl,B1⟩;have HB1:=hid B1;clear B1;go_wp2
 go_ret2;exact⟨rfl,HB1.out⟩
theorem aMF:(⟨#[112,114,111,103,114,101,115,115]⟩:ByteArray)++⟨#[32]⟩=⟨#[112,114,111,103,114,101,115,115,32]⟩:=by decide
theorem aMv:(⟨#[112,114,111,103,114,101,115,115,32]⟩:ByteArray)++⟨#[109,97,120]⟩=⟨#[112,114,111,103,114,101,115,115,32,109,97,120]⟩:=by decide
theorem zD (v t:ByteArray)(b:Bool)(h:∀w,aC w→Calls Tryz.prog 20 #[.string v] w fun e w'=>e=.returned (.tuple #[.string t,.bool b])∧Below w.heap.size w w'):cM mP wV v t b:=by
 intro w T;have HX:=hid (h w T);clear T h;unfold mP wV;have c1:=aMF;have c2:=aMv;go_enter Tryz.func83,Tryz.ntmps83
 go_wp2_with fail
 refine HX.out.mono ?_;rintro x W1 ⟨rfl,B1⟩;have HB1:=hid B1;clear B1;go_wp2
 go_ret2;exact⟨rfl,HB1.out⟩
theorem aLP:(⟨#[112,114,111,103,114,101,115,115]⟩:ByteArray)++⟨#[32]⟩=⟨#[112,114,111,103,114,101,115,115,32]⟩:=by decide
theorem aNh:(⟨#[112,114,111,103,114,101,115,115,32]⟩:ByteArray)++⟨#[118,97,108,117,101]⟩=⟨#[112,114,111,103,114,101,115,115,32,118,97,108,117,101]⟩:=by decide
theorem wM (v t:ByteArray)(b:Bool)(h:∀w,aC w→Calls Tryz.prog 20 #[.string v] w fun e w'=>e=.returned (.tuple #[.string t,.bool b])∧Below w.heap.size w w'):cM mP oU v t b:=by
 intro w T;have HX:=hid (h w T);clear T h;unfold mP oU;have c1:=aLP;have c2:=aNh;go_enter Tryz.func83,Tryz.ntmps83
 go_wp2_with fail
 refine HX.out.mono ?_;rintro x W1 ⟨rfl,B1⟩;have HB1:=hid B1;clear B1;go_wp2
 go_ret2;exact⟨rfl,HB1.out⟩
def aBl:List (List UInt8 × List UInt8):=[([97],[104,114,101,102]),([105,109,103],[115,114,99]),([105,109,103],[97,108,116]),([105,109,103],[104,101,105,103,104,116]),([105,109,103],[119,105,100,116,104]),([111,108],[115,116,97,114,116]),([116,100],[99,111,108,115,112,97,110]),([116,100],[114,111,119,115,112,97,110]),([116,104],[99,111,108,115,112,97,110]),([116,104],[114,111,119,115,112,97,110]),([109,101,116,101,114],[109,97,120]),([109,101,116,101,114],[118,97,108,117,101]),([109,101,116,101,114],[104,105,103,104]),([109,101,116,101,114],[108,111,119]),([109,101,116,101,114],[109,105,110]),([112,114,111,103,114,101,115,115],[109,97,120]),([112,114,111,103,114,101,115,115],[118,97,108,117,101])]
def zK:List (List UInt8):=[[97,32,104,114,101,102],[105,109,103,32,115,114,99],[105,109,103,32,97,108,116],[105,109,103,32,104,101,105,103,104,116],[105,109,103,32,119,105,100,116,104],[111,108,32,115,116,97,114,116],[116,100,32,99,111,108,115,112,97,110],[116,100,32,114,111,119,115,112,97,110],[116,104,32,99,111,108,115,112,97,110],[116,104,32,114,111,119,115,112,97,110],[109,101,116,101,114,32,109,97,120],[109,101,116,101,114,32,118,97,108,117,101],[109,101,116,101,114,32,104,105,103,104],[109,101,116,101,114,32,108,111,119],[109,101,116,101,114,32,109,105,110],[112,114,111,103,114,101,115,115,32,109,97,120],[112,114,111,103,114,101,115,115,32,118,97,108,117,101]]
theorem aEA {P:Program}{fn:Func}{s t:Nat}{tmps:Array Value}{u v:Value}(w:World)(h:fn.results=#[.tmp s,.tmp t])(hu:tmps.getD s undef=u)(hv:tmps.getD t undef=v):(results fn tmps).run P w=.ok (.tuple #[u,v]) w:=by
 unfold results;rw[h];rw[Array.getD_eq_getD_getElem?]at hu hv
 simp[hu,hv]
theorem aHr {P:Program}{Q:Exit→Act→World→Prop}{w:World}{s:ByteArray}{k n:Nat}{B C:TypeId}{t1 t2:Nat}{v1 v2:Value}{rid:Nat}{p1 p2:String}{f1 f2:Array Edge}{a:Act}(hC:gN s k n a)(ht:(t1 !=k&&t2 !=k&&t1 !=t2&&decide (t1<n)&&decide (t2<n))=true)
  (h:∀a',gN s k n a'→a'.eval (.tmp t1)=v1→a'.eval (.tmp t2)=v2→Q .normal a' w) :
  (Code.region rid #[{ dst:=some t1,op:=Op.assign (Operand.const v1),type:=B,pos:=p1,after:=f1,guard:=none },{ dst:=some t2,op:=Op.assign (Operand.const v2),type:=C,pos:=p2,after:=f2,guard:=none }] false).wp P Q a w:=by
 simp only[Bool.and_eq_true,bne_iff_ne,ne_eq,decide_eq_true_eq]at ht;have h1:=hC.put t1 v1 ht.1.1.1.1;have e1:=qV (a:=a) (t:=t1) (v:=v1) (by rw[hC.size];exact ht.1.2);have h2:=h1.put t2 v2 ht.1.1.1.2;have e2:=qV (a:=a.put (some t1) v1) (t:=t2) (v:=v2) (by rw[h1.size];exact ht.2);have e3:((a.put (some t1) v1).put (some t2) v2).eval (.tmp t1)=v1:=by
  rw[←e1];simp[Act.eval,Act.put,Array.getD_eq_getD_getElem?,Ne.symm ht.1.1.2];intro x y;omega
 have ec:a.eval (.const v1)=v1:=rfl;have ec2:(a.put (some t1) v1).eval (.const v2)=v2:=rfl;refine wp_region_lit (l:=[_,_]) ?_;refine wpList_plain rfl fun K hK=>?_
 have hx:=hK _ _ (wpList_plain (P:=P) (w:=w) (rest:=[]) (o:={ dst:=some t2,op:=Op.assign (Operand.const v2),type:=C,pos:=p2,after:=f2,guard:=none }) (a:=a.put (some t1) v1) rfl fun K2 hK2=>by
  have:=hK2 _ _ (wpList_nil (h _ h2 e3 e2));unfold Oper.wp;simp[execOp,ec2,Oper.upon];exact this)
 unfold Oper.wp;simp[execOp,ec,Oper.upon];exact hx
theorem aIv (e n v:ByteArray)(he:e.size≤1000000000)(hn:n.size≤1000000000)(K:ByteArray)(hK:Hid (K=e++⟨#[32]⟩++n))(h1:(n.toList==[116,105,116,108,101])=false)(h2:(n.toList==[108,97,110,103])=false)(h3:(n.toList==[100,105,114])=false)
  (hN:Hid (∀l:List UInt8,zK.contains l=true→(K.toList==(⟨l.toArray⟩:ByteArray).toList)=false)):cM e n v ⟨#[]⟩ false:=by
 intro w T;clear T;have ek:e++⟨#[32]⟩++n=K:=hK.out.symm;go_enter Tryz.func83,Tryz.ntmps83
 go_upto_region 15 with fail
 rename_i _ k1 a1 k0 a0;refine zR 9 K _ 37 90 (hN.out _ (by decide +kernel)) ⟨rfl,rfl,rfl⟩ rfl ?_;intro a hC hb;repeat' (first
  | (refine zR 9 K _ 37 90 (hN.out _ (by decide +kernel)) hC rfl ?_;clear hC;intro a hC hb)
  | (with_reducible refine lV ?_)
  | (with_reducible refine wF ?_)
  | (with_reducible refine wp_cond_false hb ?_)
  | (with_reducible refine wp_seq ?_)
  | (with_reducible refine wp_skip ?_)
  | (with_reducible refine a0 _ _ ?_)
  | (with_reducible refine a1 _ _ ?_))
 refine aHr hC rfl ?_;clear hC hb;intro a hC h6 h7;refine lV (wp_ret ?_);exact⟨hC.defers,_,aEA w rfl h6 h7,rfl,Below.refl _ _⟩
open Go.RowKit
def aN3:List ByteArray:=[aAw,aEm,aDa]
structure aAj (sm:ByteArray) (B k:Nat) (w wx:World):Prop where
 le:k≤3
 no1:1≤k→sm≠aAw
 no2:2≤k→sm≠aEm
 no3:3≤k→sm≠aDa
 str:pG wx B 0 aN3
 bel:Below B w wx
 lt:B<wx.heap.size
structure aNH (sm t:ByteArray) (b:Bool):Prop where
 yes:zQ sm→sm=t∧true=b
 no:¬zQ sm→t=⟨#[]⟩∧b=false
theorem qQ {sm c:ByteArray}(l:List UInt8)(h:sm≠c)(hl:c.data.toList=l):(sm.toList==l)=false:=by
 rw[beq_eq_false_iff_ne,toList_data,←hl];exact fun e=>h (fL e)
theorem sO {sm c:ByteArray}(h:sm≠c):¬sm.toList=c.toList:=fun e=>h (fL (by rw[toList_data,toList_data]at e;exact e))
theorem aDS (e v t:ByteArray)(b:Bool)(hv:v.size≤140737488355328)(hE:Hid (aNH (mL v) t b)):cM e aBb v t b:=by
 intro w T;have S:=fun W=>aCw v hv W
 rw[show(⟨(dC v.data.toList).toArray⟩:ByteArray)=mL v from rfl]at S
 generalize mL v=sm at *
 have HS:=hid S;clear S T;unfold aBb;go_enter Tryz.func83,Tryz.ntmps83
 go_upto_region 8 with fail
 have H0:Hid (aAj sm w.heap.size 0 w (w.alloc (.cells #[Value.string ⟨#[97,117,116,111]⟩,Value.string ⟨#[108,116,114]⟩,Value.string ⟨#[114,116,108]⟩] 9))):=by
  refine⟨by omega,by omega,by omega,by omega,?_,(Below.refl _ w).alloc oI _,by simp⟩;intro j hj;rw[Nat.zero_add,cell_of_row _ w.heap.size j _ 9 (0,0) (heap_alloc_new w _)];have:∀j<3,(#[Value.string ⟨#[97,117,116,111]⟩,Value.string ⟨#[108,116,114]⟩,Value.string ⟨#[114,116,108]⟩]:Array Value)[j]?=some (Value.string (aN3.getD j ByteArray.empty)):=by
   intro j hj;match j,hj with
   | 0,_=>rfl
   | 1,_=>rfl
   | 2,_=>rfl
  exact this j hj
 go_loopw [6,7,24] (fun r6 r7 i wx=>r6=.string ⟨#[]⟩∧r7=.bool false∧∃k:Nat,i=.int .i64 k∧Hid (aAj sm w.heap.size k w wx)) (fun _ _ i _=>3-(intOf i).toNat)
 case atStart=>exact⟨rfl,rfl,0,rfl,H0⟩
 case round =>
  obtain⟨rfl,rfl,k,rfl,hD⟩:=hrel;have hk:=hD.out.le;have hcases:k=0∨k=1∨k=2∨k=3:=by omega
  rcases hcases with rfl|rfl|rfl|rfl
  ·have hcell:wr.cell? ⟨w.heap.size,0,none⟩=some (.string ⟨#[97,117,116,111]⟩):=hD.out.str 0 (by decide);by_cases hs:sm=aAw
   ·obtain⟨rfl,rfl⟩:=hE.out.yes (.inl hs);subst hs;unfold aAw at *
    go_wp2_with fail
    refine(HS.out _).mono ?_;rintro x w1 ⟨rfl,B1⟩;have HB:=hid (hD.out.bel.trans (B1.mono (Nat.le_of_lt hD.out.lt)));clear B1;go_wp2
    go_ret2;exact⟨rfl,HB.out⟩
   ·have hn:=qQ [97,117,116,111] hs rfl;have HH:=hid hs;clear hs;go_wp2_with fail
    refine(HS.out _).mono ?_;rintro x w1 ⟨rfl,B1⟩;have HN:Hid (aAj sm w.heap.size 1 w w1):=⟨by omega,fun _=>HH.out,by omega,by omega,hD.out.str.below B1 hD.out.lt,hD.out.bel.trans (B1.mono (Nat.le_of_lt hD.out.lt)),Nat.lt_of_lt_of_le hD.out.lt B1.size⟩
    clear B1;go_wp2
    go_roundw
    case rel=>exact⟨rfl,rfl,1,by go_num,HN⟩
    case measure=>simp[intOf]
  ·have hcell:wr.cell? ⟨w.heap.size,1,none⟩=some (.string ⟨#[108,116,114]⟩):=hD.out.str 1 (by decide);by_cases hs:sm=aEm
   ·obtain⟨rfl,rfl⟩:=hE.out.yes (.inr (.inl hs));subst hs;unfold aEm at *
    go_wp2_with fail
    refine(HS.out _).mono ?_;rintro x w1 ⟨rfl,B1⟩;have HB:=hid (hD.out.bel.trans (B1.mono (Nat.le_of_lt hD.out.lt)));clear B1;go_wp2
    go_ret2;exact⟨rfl,HB.out⟩
   ·have hn:=qQ [108,116,114] hs rfl;have HH:=hid hs;clear hs;go_wp2_with fail
    refine(HS.out _).mono ?_;rintro x w1 ⟨rfl,B1⟩;have HN:Hid (aAj sm w.heap.size 2 w w1):=⟨by omega,fun _=>hD.out.no1 (by omega),fun _=>HH.out,by omega,hD.out.str.below B1 hD.out.lt,hD.out.bel.trans (B1.mono (Nat.le_of_lt hD.out.lt)),Nat.lt_of_lt_of_le hD.out.lt B1.size⟩
    clear B1;go_wp2
    go_roundw
    case rel=>exact⟨rfl,rfl,2,by go_num,HN⟩
    case measure=>simp[intOf]
  ·have hcell:wr.cell? ⟨w.heap.size,2,none⟩=some (.string ⟨#[114,116,108]⟩):=hD.out.str 2 (by decide);by_cases hs:sm=aDa
   ·obtain⟨rfl,rfl⟩:=hE.out.yes (.inr (.inr hs));subst hs;unfold aDa at *
    go_wp2_with fail
    refine(HS.out _).mono ?_;rintro x w1 ⟨rfl,B1⟩;have HB:=hid (hD.out.bel.trans (B1.mono (Nat.le_of_lt hD.out.lt)));clear B1;go_wp2
    go_ret2;exact⟨rfl,HB.out⟩
   ·have hn:=qQ [114,116,108] hs rfl;have HH:=hid hs;clear hs;go_wp2_with fail
    refine(HS.out _).mono ?_;rintro x w1 ⟨rfl,B1⟩;have HN:Hid (aAj sm w.heap.size 3 w w1):=⟨by omega,fun _=>hD.out.no1 (by omega),fun _=>hD.out.no2 (by omega),fun _=>HH.out,hD.out.str.below B1 hD.out.lt,hD.out.bel.trans (B1.mono (Nat.le_of_lt hD.out.lt)),Nat.lt_of_lt_of_le hD.out.lt B1.size⟩
    clear B1;go_wp2
    go_roundw
    case rel=>exact⟨rfl,rfl,3,by go_num,HN⟩
    case measure=>simp[intOf]
  ·obtain⟨rfl,rfl⟩:=hE.out.no (fun hp=>by
    rcases hp with h|h|h
    ·exact hD.out.no1 (by omega) h
    ·exact hD.out.no2 (by omega) h
    ·exact hD.out.no3 (by omega) h)
   go_wp2
   go_ret2;exact⟨rfl,hD.out.bel⟩
end Go.Proofs.YtcfgbdhpcboikaaGreatDoor
