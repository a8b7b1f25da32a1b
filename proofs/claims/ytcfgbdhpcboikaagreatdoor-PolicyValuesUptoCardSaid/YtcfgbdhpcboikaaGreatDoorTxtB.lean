/-
policy.Text and Link as functions of byte arrays.
-/
import Derived.Test.YtcfgbdhpcboikaaGreatDoorAtofC
import Derived.Test.YtcfgbdhpcboikaaGreatDoorDecV
import Derived.Test.YtcfgbdhpcboikaaGreatDoorRefIn
namespace Go.Proofs.YtcfgbdhpcboikaaGreatDoor
open Go.Lib (hid)
set_option maxHeartbeats 4000000
set_option maxRecDepth 100000
open Go.RowKit
def nI (v:ByteArray):ByteArray:=⟨(bT v.data.toList).toArray⟩
def gG (v:ByteArray):ByteArray:=⟨(aZ v.data.toList).toArray⟩
theorem gE {a b:ByteArray}(h:a.data.toList=b.data.toList):a=b:=by
 cases a;cases b;simpa using h
theorem aAN (v:ByteArray):(nI v).data.toList=bT v.data.toList:=rfl
theorem oH (v:ByteArray):(gG v).data.toList=aZ v.data.toList:=rfl
theorem aGp (v:ByteArray):nI (nI v)=nI v:=gE (by rw[aAN,aAN,aIJ])
theorem aAb (v:ByteArray):gG (gG v)=gG v:=gE (by rw[oH,oH,uI])
open Go.RowKit
def nE:ByteArray:=⟨#[108,97,110,103]⟩
def tE:ByteArray:=⟨#[100,105,114]⟩
def uV:ByteArray:=⟨#[115,114,99]⟩
def dW:ByteArray:=⟨#[105,109,103]⟩
def uS:ByteArray:=⟨#[97,108,116]⟩
def jW:ByteArray:=⟨#[104,101,105,103,104,116]⟩
def mJ:ByteArray:=⟨#[119,105,100,116,104]⟩
def sOl:ByteArray:=⟨#[111,108]⟩
def mI:ByteArray:=⟨#[115,116,97,114,116]⟩
def sTd:ByteArray:=⟨#[116,100]⟩
def sTh:ByteArray:=⟨#[116,104]⟩
def fP:ByteArray:=⟨#[99,111,108,115,112,97,110]⟩
def fQ:ByteArray:=⟨#[114,111,119,115,112,97,110]⟩
def cU:ByteArray:=⟨#[109,101,116,101,114]⟩
def eI:ByteArray:=⟨#[112,114,111,103,114,101,115,115]⟩
def pJ:ByteArray:=⟨#[109,97,120]⟩
def jK:ByteArray:=⟨#[118,97,108,117,101]⟩
def tF:ByteArray:=⟨#[104,105,103,104]⟩
def yF:ByteArray:=⟨#[108,111,119]⟩
def yG:ByteArray:=⟨#[109,105,110]⟩
def qD:ByteArray:=⟨#[97,117,116,111]⟩
def uT:ByteArray:=⟨#[108,116,114]⟩
def uU:ByteArray:=⟨#[114,116,108]⟩
def aOq:ByteArray:=⟨#[104,116,116,112]⟩
def aNI:ByteArray:=⟨#[104,116,116,112,115]⟩
inductive FK where
 | text|lang|dir|linkA|linkI|whole (lo hi:Nat)|fix|none
deriving DecidableEq
def eK (e n:ByteArray):Bool:=(decide (e=cU)&&(decide (n=pJ)||decide (n=jK)||decide (n=tF)||decide (n=yF)||decide (n=yG)))||(decide (e=eI)&&(decide (n=pJ)||decide (n=jK)))
def aT (e n:ByteArray):FK :=
 if n=jJ then .text else if n=nE then .lang else if n=tE then .dir
 else if e=sA∧n=iQ then .linkA
 else if e=dW∧n=uV then .linkI
 else if e=dW∧n=uS then .text
 else if e=dW∧(n=jW∨n=mJ)then .whole 0 9999
 else if e=sOl∧n=mI then .whole 0 999999
 else if (e=sTd∨e=sTh)∧(n=fP∨n=fQ)then .whole 1 1000
 else if eK e n=true then .fix
 else .none
def rI (c:UInt8):Bool:=(decide (97≤c.toNat)&&decide (c.toNat≤122))||(decide (65≤c.toNat)&&decide (c.toNat≤90))
def nA (c:UInt8)(i:Nat):Bool:=rI c||(decide (0<i)&&(decide (c.toNat=45)||(decide (48≤c.toNat)&&decide (c.toNat≤57))))
def vO (l:List UInt8):Prop:=∀j (h:j<l.length),nA l[j] j=true
def kQ (v:ByteArray):Prop:=vO v.data.toList∧1≤v.size∧v.size≤16
def xF (v:ByteArray):Prop:=v=qD∨v=uT∨v=uU
def aNR (lo hi:Nat)(v:ByteArray):Prop:=∃x,dQ v lo hi x true
def cK (v:ByteArray):ByteArray:=⟨(bF v.data.toList).toArray⟩
def qZ:List ByteArray:=[aOq,aNI]
structure aFq (v t:ByteArray):Prop where
 sz:t.size≤25
 num:bR t.data.toList=true
 yes:∀w,aA w→Calls Tryz.prog 20 #[.string v] w fun e w'=>e=.returned (.tuple #[.string t,.bool true])∧Below w.heap.size w w'
 again:∀w,aA w→Calls Tryz.prog 20 #[.string t] w fun e w'=>e=.returned (.tuple #[.string t,.bool true])∧Below w.heap.size w w'
def aFr (v:ByteArray):Prop:=∀w,aA w→Calls Tryz.prog 20 #[.string v] w fun e w'=>e=.returned (.tuple #[.string ⟨#[]⟩,.bool false])∧Below w.heap.size w w'
def nY (k:FK)(v:ByteArray):Option ByteArray→Prop
 | some t=>match k with
  | .text=>t=nI v
  | .lang=>kQ v∧t=v
  | .dir=>xF (cK v)∧t=cK v
  | .linkA=>dI kU (aZ v.data.toList)=true∧t=gG v
  | .linkI=>dI qZ (aZ v.data.toList)=true∧t=gG v
  | .whole lo hi=>aNR lo hi v∧t=v
  | .fix=>aFq v t
  | .none=>False
 | none=>match k with
  | .text=>False
  | .lang=>¬kQ v
  | .dir=>¬xF (cK v)
  | .linkA=>dI kU (aZ v.data.toList)=false
  | .linkI=>dI qZ (aZ v.data.toList)=false
  | .whole lo hi=>∃x,dQ v lo hi x false
  | .fix=>aFr v
  | .none=>True
def gR (e n v:ByteArray)(o:Option ByteArray):Prop :=
 match o with
 | some t=>¬(cH e.data.toList<2∨cH e.data.toList=14)∧nY (aT e n) v (some t)∧(fC t).size≤120
 | none=>(cH e.data.toList<2∨cH e.data.toList=14)∨nY (aT e n) v none∨∃t,nY (aT e n) v (some t)∧120<(fC t).size
theorem aHa {v:ByteArray}(h:xF v):cK v=v:=by
 rcases h with rfl|rfl|rfl<;>exact gE (by decide)
theorem aFO {k:FK}{v t:ByteArray}(h:nY k v (some t)):nY k t (some t):=by
 cases k with
 | text=>subst h;exact(aGp v).symm
 | lang=>obtain⟨h1,rfl⟩:=h;exact⟨h1,rfl⟩
 | dir =>
  obtain⟨h1,h2⟩:=h;rw[←h2]at h1
  have e:=aHa h1;exact⟨by rw[e];exact h1,e.symm⟩
 | linkA =>
  obtain⟨h1,rfl⟩:=h;exact⟨by rw[oH,uI];exact h1,(aAb v).symm⟩
 | linkI =>
  obtain⟨h1,rfl⟩:=h;exact⟨by rw[oH,uI];exact h1,(aAb v).symm⟩
 | whole lo hi=>obtain⟨h1,rfl⟩:=h;exact⟨h1,rfl⟩
 | fix=>exact⟨h.sz,h.num,h.again,h.again⟩
 | none=>exact h
theorem aEI {e n v t:ByteArray}(h:gR e n v (some t)):gR e n t (some t):=⟨h.1,aFO h.2.1,h.2.2⟩
open Go.RowKit
def rC (l:List UInt8)(k:Nat):Prop:=k≤l.length∧∀j (h:j<l.length),j<k→nA l[j] j=true
theorem rC.step {l:List UInt8}{k:Nat}(h:rC l k)(hk:k<l.length)(hb:nA l[k] k=true):rC l (k+1) :=
 ⟨hk,fun j hj hlt=>by
  rcases Nat.lt_or_ge j k with h1|h1
  ·exact h.2 j hj h1
  ·obtain rfl:j=k:=by omega
   exact hb⟩
theorem aJS {l:List UInt8}{k:Nat}(hk:k<l.length)(hb:nA l[k] k=false):¬vO l:=fun h=>by
 have:=h k hk;rw[hb]at this
 cases this
theorem aC5 (c:UInt8)(d k:Nat)(h:c.toNat=d):nA c k=(((decide (97≤d)&&decide (d≤122))||(decide (65≤d)&&decide (d≤90)))||(decide (0<k)&&(decide (d=45)||(decide (48≤d)&&decide (d≤57))))):=by
 unfold nA rI;rw[h]
structure wT (v:ByteArray) (k d:Nat):Prop where
 yes:(((decide (97≤d)&&decide (d≤122))||(decide (65≤d)&&decide (d≤90)))||(decide (0<k)&&(decide (d=45)||(decide (48≤d)&&decide (d≤57)))))=true→rC v.data.toList (k+1)
 no:(((decide (97≤d)&&decide (d≤122))||(decide (65≤d)&&decide (d≤90)))||(decide (0<k)&&(decide (d=45)||(decide (48≤d)&&decide (d≤57)))))=false→¬kQ v
theorem wT.of (v:ByteArray)(k d:Nat)(hk:k<v.data.toList.length)(h:rC v.data.toList k)(hd:v.data.toList[k].toNat=d):wT v k d :=
 ⟨fun hy=>by rw[←aC5 _ d k hd]at hy;exact h.step hk hy,fun hn hp=>by rw[←aC5 _ d k hd]at hn;exact aJS hk hn hp.1⟩
theorem aJR (v:ByteArray)(hv:v.size≤140737488355328)(b:Bool)(hb:Hid (b=true↔kQ v))(w:World):Calls Tryz.prog 142 #[.string v] w fun e w'=>e=.returned (.bool b)∧Below w.heap.size w w':=by
 obtain⟨cap,W,hrun,hbel,hby,hcap,hsz⟩:=oC v w;have HB:=hid hbel;have HY:Hid (bK W w.heap.size 0 v.data.toList):=hby;have HNO:Hid (¬kQ v→b=false):=fun h=>by
  cases b with
  | false=>rfl
  | true=>exact absurd (hb.out.1 rfl) h
 clear hbel hby hcap hsz;go_enter Tryz.func142,Tryz.ntmps142
 go_wp2
 clear hrun;go_loop [2,9] (fun r i=>r=.bool false∧∃k:Nat,i=.int .i64 k∧Hid (rC v.data.toList k)) (fun _ i=>v.size-(intOf i).toNat)
 case atStart=>exact⟨rfl,0,rfl,hid ⟨Nat.zero_le _,fun j hj h0=>absurd h0 (by omega)⟩⟩
 case round =>
  obtain⟨rfl,k,rfl,hR⟩:=hrel;rcases Nat.lt_or_ge k v.size with hlt|hge
  ·have hcell:=HY.out k hlt;obtain⟨d,hd⟩:∃d,(v.data.toList[k]'hlt).toNat=d:=⟨_,rfl⟩
   have HS:=hid (wT.of v k d hlt hR.out hd);have hd8:d<256:=by rw[←hd];exact(v.data.toList[k]'hlt).toNat_lt
   rw[hd,Nat.zero_add]at hcell
   clear hd;have hcases:(97≤d∧d≤122)∨(65≤d∧d≤90)∨d=45∨(48≤d∧d≤57)∨(d<45∨(45<d∧d<48)∨(57<d∧d<65)∨(90<d∧d<97)∨122<d):=by omega
   rcases hcases with⟨h,h2⟩|⟨h,h2⟩|rfl|⟨h,h2⟩|h
   ·have HF:=hid (HS.out.yes (by simp;omega));have l1:decide ((d:Int)≤122)=true:=by simp;omega
    go_wp2
    go_round
    case rel=>exact⟨rfl,k+1,by go_num,HF⟩
    case measure=>simp[intOf];omega
   ·have HF:=hid (HS.out.yes (by simp;omega));have l1:decide ((d:Int)≤90)=true:=by simp;omega
    go_wp2
    go_round
    case rel=>exact⟨rfl,k+1,by go_num,HF⟩
    case measure=>simp[intOf];omega
   ·rcases Nat.eq_zero_or_pos k with hk0|hk0
    ·subst hk0;have HF:=hid (HNO.out (HS.out.no (by simp)));go_wp2
     go_ret;exact⟨by rw[HF.out];rfl,HB.out⟩
    ·have HF:=hid (HS.out.yes (by simp;omega));have tk:((k:Int)==0)=false:=by rw[beq_eq_false_iff_ne];omega
     go_wp2
     go_round
     case rel=>exact⟨rfl,k+1,by go_num,HF⟩
     case measure=>simp[intOf];omega
   ·have t45:((d:Int)==45)=false:=by rw[beq_eq_false_iff_ne];omega
    have t45':((d:Int) !=45)=true:=by rw[bne_iff_ne];omega
    have l1:decide ((d:Int)≤57)=true:=by simp;omega
    rcases Nat.eq_zero_or_pos k with hk0|hk0
    ·subst hk0;have HF:=hid (HNO.out (HS.out.no (by simp;omega)));go_wp2
     go_ret;exact⟨by rw[HF.out];rfl,HB.out⟩
    ·have HF:=hid (HS.out.yes (by simp;omega));have tk:((k:Int)==0)=false:=by rw[beq_eq_false_iff_ne];omega
     go_wp2
     go_round
     case rel=>exact⟨rfl,k+1,by go_num,HF⟩
     case measure=>simp[intOf];omega
   ·have t45:((d:Int)==45)=false:=by rw[beq_eq_false_iff_ne];omega
    have t45':((d:Int) !=45)=true:=by rw[bne_iff_ne];omega
    have HF:=hid (HNO.out (HS.out.no (by simp;omega)));rcases Nat.eq_zero_or_pos k with hk0|hk0
    ·subst hk0;rcases h with h|⟨h,h2⟩|⟨h,h2⟩|⟨h,h2⟩|h
     all_goals
      try have l1:decide ((d:Int)≤122)=false:=by simp;omega
      try have l2:decide ((d:Int)≤90)=false:=by simp;omega
      try have l3:decide ((d:Int)≤57)=false:=by simp;omega
      go_wp2
      go_ret;exact⟨by rw[HF.out];rfl,HB.out⟩
    ·have tk:((k:Int)==0)=false:=by rw[beq_eq_false_iff_ne];omega
     rcases h with h|⟨h,h2⟩|⟨h,h2⟩|⟨h,h2⟩|h
     all_goals
      try have l1:decide ((d:Int)≤122)=false:=by simp;omega
      try have l2:decide ((d:Int)≤90)=false:=by simp;omega
      try have l3:decide ((d:Int)≤57)=false:=by simp;omega
      go_wp2
      go_ret;exact⟨by rw[HF.out];rfl,HB.out⟩
  ·have hall:vO v.data.toList:=fun j hj=>hR.out.2 j hj (by have:v.data.toList.length=v.size:=rfl;omega)
   have HX:Hid (1≤v.size∧v.size≤16→b=true):=fun h=>hb.out.2 ⟨hall,h.1,h.2⟩
   have HN:Hid (¬(1≤v.size∧v.size≤16)→b=false):=fun h=>HNO.out fun hp=>h hp.2
   clear hall;rcases Nat.lt_or_ge v.size 1 with h1|h1
   ·have HF:=hid (HN.out (by omega));go_wp2
    go_ret;exact⟨by rw[HF.out];rfl,HB.out⟩
   ·rcases Nat.lt_or_ge 16 v.size with h2|h2
    ·have HF:=hid (HN.out (by omega));have l16:decide ((v.size:Int)≤16)=false:=by simp;omega
     go_wp2
     go_ret;exact⟨by rw[HF.out];rfl,HB.out⟩
    ·have HF:=hid (HX.out ⟨h1,h2⟩);have l16:decide ((v.size:Int)≤16)=true:=by simp;omega
     go_wp2
     go_ret;exact⟨by rw[HF.out];rfl,HB.out⟩
open Go.RowKit
theorem aCy (s:ByteArray)(hn:bR s.data.toList=true):aFp s:=by
 obtain⟨neg,p0,q,ev,hs,hsg,N,hE,SP⟩:=aFX s hn;have hlt:=N.lt;have hle:=N.le;have hch:=sZ s p0 q N q (Nat.le_of_lt hlt) (Nat.le_refl _);have hpl:=jD s p0 q (Nat.le_of_lt hlt) hle;have RD:tU s (aK (aJ s p0 q)).mant ((aK (aJ s p0 q)).expo ev) neg (aK (aJ s p0 q)).trunc:=fun w=>yB s neg p0 q w hs hsg N ev hE
 have rb:=aAq s p0 q N q (Nat.le_of_lt hlt) (Nat.le_refl _);have so:=aDO neg (aJ s p0 q) (by omega) hch;have few:=aBI (aJ s p0 q) hch;have SF:∀w B,aB w B aAW→Calls Tryz.prog 240 #[.pointer (some ⟨B,0,none⟩),.string s] w fun e w'=>e=.returned (.bool true)∧aB w' B (aDF neg (aJ s p0 q) ev)∧aC (· = B) w w' :=
  fun w B h=>aMn B s neg p0 q w h hs hsg N ev hE
 have hm:=rb.mant;have h19:=aKN (aK (aJ s p0 q)).ndM (by have:=rb.ndM;omega);refine aI6 s _ _ neg _ hs SP RD (by omega) (aDF neg (aJ s p0 q) ev) ⟨so.len,?_,so.dig,so.head⟩ so.neg ?_ SF
 ·have:=so.le;show(gO neg (aJ s p0 q)).nd≤800;omega
 ·intro hm0 ht;have h20:20≤(aK (aJ s p0 q)).nd:=by
   refine Nat.le_of_not_lt fun h=>?_
   rw[few (by omega)]at ht
   cases ht
  refine⟨?_,?_⟩
  ·show 1≤(gO neg (aJ s p0 q)).nd;have:=so.nd;omega
  ·unfold RS.expo;rw[if_neg hm0];have:=rb.ndM;show(aK (aJ s p0 q)).place+ev-_+19=(aK (aJ s p0 q)).place+ev;omega
open Go.RowKit
theorem aEX (w0:World)(T0:aA w0)(v:ByteArray)(hv:v.size≤maxLen):(∃t,aFq v t)∨aFr v:=by
 rcases aH0 aCy v hv with⟨neg,b,hb,hp⟩|h
 ·obtain⟨t,ht⟩:=aFe neg b hb;refine .inl ⟨t,ht.sz,?_,fun w T=>aFK v _ t w T hp ht.pr,ht.fx⟩;cases hn:bR t.data.toList with
  | true=>rfl
  | false =>
   have h1:=fun w (_:aA w)=>xZ t w (by have:=ht.sz;unfold maxLen;omega) hn
   have h2:=zR t w0 T0 (fun w T=>cZ (h1 w T));have h3:=ht.fx w0 T0;have:=pS (by kernel_rfl) h3 h2;simp at this
 ·exact .inr fun w T=>zR v w T h
open Go.RowKit
def aNS:List ByteArray:=[qD,uT,uU]
structure yX (sm:ByteArray) (B k:Nat) (w wx:World):Prop where
 le:k≤3
 no1:1≤k→sm≠qD
 no2:2≤k→sm≠uT
 no3:3≤k→sm≠uU
 str:nM wx B 0 aNS
 bel:Below B w wx
 lt:B<wx.heap.size
structure aME (sm t:ByteArray) (b:Bool):Prop where
 yes:xF sm→sm=t∧true=b
 no:¬xF sm→t=⟨#[]⟩∧b=false
theorem oQ {sm c:ByteArray}(l:List UInt8)(h:sm≠c)(hl:c.data.toList=l):(sm.toList==l)=false:=by
 rw[beq_eq_false_iff_ne,toList_data,←hl];exact fun e=>h (gE e)
theorem aCV (e v t:ByteArray)(b:Bool)(hv:v.size≤140737488355328)(hE:Hid (aME (cK v) t b)):bS e tE v t b:=by
 intro w T;have S:=fun W=>aBL v hv W
 rw[show(⟨(bF v.data.toList).toArray⟩:ByteArray)=cK v from rfl]at S
 generalize cK v=sm at *
 have HS:=hid S;clear S T;unfold tE;go_enter Tryz.func83,Tryz.ntmps83
 go_upto_region 8 with fail
 have H0:Hid (yX sm w.heap.size 0 w (w.alloc (.cells #[Value.string ⟨#[97,117,116,111]⟩,Value.string ⟨#[108,116,114]⟩,Value.string ⟨#[114,116,108]⟩] 9))):=by
  refine⟨by omega,by omega,by omega,by omega,?_,(Below.refl _ w).alloc (Nat.le_refl _) _,by simp⟩;intro j hj;rw[Nat.zero_add,cell_of_row _ w.heap.size j _ 9 (0,0) (heap_alloc_new w _)];have:∀j<3,(#[Value.string ⟨#[97,117,116,111]⟩,Value.string ⟨#[108,116,114]⟩,Value.string ⟨#[114,116,108]⟩]:Array Value)[j]?=some (Value.string (aNS.getD j ByteArray.empty)):=by
   intro j hj;match j,hj with
   | 0,_=>rfl
   | 1,_=>rfl
   | 2,_=>rfl
  exact this j hj
 go_loopw [6,7,24] (fun r6 r7 i wx=>r6=.string ⟨#[]⟩∧r7=.bool false∧∃k:Nat,i=.int .i64 k∧Hid (yX sm w.heap.size k w wx)) (fun _ _ i _=>3-(intOf i).toNat)
 case atStart=>exact⟨rfl,rfl,0,rfl,H0⟩
 case round =>
  obtain⟨rfl,rfl,k,rfl,hD⟩:=hrel;have hk:=hD.out.le;have hcases:k=0∨k=1∨k=2∨k=3:=by omega
  rcases hcases with rfl|rfl|rfl|rfl
  ·have hcell:wr.cell? ⟨w.heap.size,0,none⟩=some (.string ⟨#[97,117,116,111]⟩):=hD.out.str 0 (by decide);by_cases hs:sm=qD
   ·obtain⟨rfl,rfl⟩:=hE.out.yes (.inl hs);subst hs;unfold qD at *
    go_wp2_with fail
    refine(HS.out _).mono ?_;rintro x w1 ⟨rfl,B1⟩;have HB:=hid (hD.out.bel.trans (B1.mono (Nat.le_of_lt hD.out.lt)));clear B1;go_wp2
    go_ret2;exact⟨rfl,HB.out⟩
   ·have hn:=oQ [97,117,116,111] hs rfl;have HH:=hid hs;clear hs;go_wp2_with fail
    refine(HS.out _).mono ?_;rintro x w1 ⟨rfl,B1⟩;have HN:Hid (yX sm w.heap.size 1 w w1):=⟨by omega,fun _=>HH.out,by omega,by omega,hD.out.str.below B1 hD.out.lt,hD.out.bel.trans (B1.mono (Nat.le_of_lt hD.out.lt)),Nat.lt_of_lt_of_le hD.out.lt B1.size⟩
    clear B1;go_wp2
    go_roundw
    case rel=>exact⟨rfl,rfl,1,by go_num,HN⟩
    case measure=>simp[intOf]
  ·have hcell:wr.cell? ⟨w.heap.size,1,none⟩=some (.string ⟨#[108,116,114]⟩):=hD.out.str 1 (by decide);by_cases hs:sm=uT
   ·obtain⟨rfl,rfl⟩:=hE.out.yes (.inr (.inl hs));subst hs;unfold uT at *
    go_wp2_with fail
    refine(HS.out _).mono ?_;rintro x w1 ⟨rfl,B1⟩;have HB:=hid (hD.out.bel.trans (B1.mono (Nat.le_of_lt hD.out.lt)));clear B1;go_wp2
    go_ret2;exact⟨rfl,HB.out⟩
   ·have hn:=oQ [108,116,114] hs rfl;have HH:=hid hs;clear hs;go_wp2_with fail
    refine(HS.out _).mono ?_;rintro x w1 ⟨rfl,B1⟩;have HN:Hid (yX sm w.heap.size 2 w w1):=⟨by omega,fun _=>hD.out.no1 (by omega),fun _=>HH.out,by omega,hD.out.str.below B1 hD.out.lt,hD.out.bel.trans (B1.mono (Nat.le_of_lt hD.out.lt)),Nat.lt_of_lt_of_le hD.out.lt B1.size⟩
    clear B1;go_wp2
    go_roundw
    case rel=>exact⟨rfl,rfl,2,by go_num,HN⟩
    case measure=>simp[intOf]
  ·have hcell:wr.cell? ⟨w.heap.size,2,none⟩=some (.string ⟨#[114,116,108]⟩):=hD.out.str 2 (by decide);by_cases hs:sm=uU
   ·obtain⟨rfl,rfl⟩:=hE.out.yes (.inr (.inr hs));subst hs;unfold uU at *
    go_wp2_with fail
    refine(HS.out _).mono ?_;rintro x w1 ⟨rfl,B1⟩;have HB:=hid (hD.out.bel.trans (B1.mono (Nat.le_of_lt hD.out.lt)));clear B1;go_wp2
    go_ret2;exact⟨rfl,HB.out⟩
   ·have hn:=oQ [114,116,108] hs rfl;have HH:=hid hs;clear hs;go_wp2_with fail
    refine(HS.out _).mono ?_;rintro x w1 ⟨rfl,B1⟩;have HN:Hid (yX sm w.heap.size 3 w w1):=⟨by omega,fun _=>hD.out.no1 (by omega),fun _=>hD.out.no2 (by omega),fun _=>HH.out,hD.out.str.below B1 hD.out.lt,hD.out.bel.trans (B1.mono (Nat.le_of_lt hD.out.lt)),Nat.lt_of_lt_of_le hD.out.lt B1.size⟩
    clear B1;go_wp2
    go_roundw
    case rel=>exact⟨rfl,rfl,3,by go_num,HN⟩
    case measure=>simp[intOf]
  ·obtain⟨rfl,rfl⟩:=hE.out.no (fun hp=>by
    rcases hp with h|h|h
    ·exact hD.out.no1 (by omega) h
    ·exact hD.out.no2 (by omega) h
    ·exact hD.out.no3 (by omega) h)
   go_wp2
   go_ret2;exact⟨rfl,hD.out.bel⟩
theorem oU (old new:List UInt8)(ho:old≠[]):Lib.replaceAll [] old new=[]:=by
 unfold Lib.replaceAll Lib.replace;split
 ·rfl
 ·have h:Lib.index [] old=-1:=by
   cases old with
   | nil=>exact absurd rfl ho
   | cons a t=>rfl
  have hn:Lib.replaceNum [] old (-1)=Lib.count [] old:=if_pos (Or.inl (by omega));rw[hn,Lib.count_miss h];rfl
theorem oJ (s old new:List UInt8)(hne:old≠new):Lib.replaceAll s old new=Lib.replaceK old new (Lib.count s old) s:=by
 unfold Lib.replaceAll Lib.replace;rw[if_neg (by simpa using hne)];have hn:Lib.replaceNum s old (-1)=Lib.count s old:=if_pos (Or.inl (by omega));rw[hn]
theorem oT (old new b:List UInt8)(ho:old≠[])(hne:old≠new):Lib.replaceAll (old++b) old new=new++Lib.replaceAll b old new:=by
 have hi:Lib.index (old++b) old=(0:Nat):=by
  cases old with
  | nil=>exact absurd rfl ho
  | cons a t =>
   show(if (a :: t).isPrefixOf (a :: (t++b))then (0:Int)else _)=_;rw[if_pos (by rw[List.isPrefixOf_iff_prefix];exact⟨b,rfl⟩)];rfl
 have hc:=Lib.count_hit ho hi;rw[Nat.zero_add,List.drop_left]at hc
 rw[oJ _ _ _ hne,oJ _ _ _ hne,hc,Nat.add_comm 1,Lib.replaceK_hit old new _ _ 0 hi,Nat.zero_add,List.drop_left];rfl
theorem jG (old new:List UInt8)(c:UInt8)(l:List UInt8)(ho:old≠[])(hne:old≠new)(h:old.isPrefixOf (c :: l)=false):Lib.replaceAll (c :: l) old new=c :: Lib.replaceAll l old new:=by
 have e:Lib.index (c :: l) old=if Lib.index l old==-1 then -1 else Lib.index l old+1:=by
  show(if old.isPrefixOf (c :: l)then (0:Int)else _)=_;rw[h];rfl
 rw[oJ _ _ _ hne,oJ _ _ _ hne];by_cases hm:Lib.index l old=-1
 ·rw[hm]at e
  rw[Lib.count_miss hm,Lib.count_miss (show Lib.index (c :: l) old=-1 from e)];rfl
 ·have hge:=Lib.index_ge l old;obtain⟨i,hi⟩:∃i:Nat,Lib.index l old=i:=⟨(Lib.index l old).toNat,by omega⟩
  rw[hi,if_neg (by simp)]at e
  have e2:Lib.index (c :: l) old=((i+1:Nat):Int):=e;have h1:=Lib.count_hit ho hi;have h2:=Lib.count_hit ho e2;have hd:(c :: l).drop (i+1+old.length)=l.drop (i+old.length):=by
   rw[show i+1+old.length=i+old.length+1 by omega,List.drop_succ_cons]
  rw[hd,←h1]at h2
  rw[h2,h1,Nat.add_comm 1,Lib.replaceK_hit old new _ _ _ e2,Lib.replaceK_hit old new _ _ _ hi,hd];rfl
theorem pH (o:UInt8)(old new:List UInt8)(hne:o :: old≠new):∀(a b:List UInt8),o∉a→Lib.replaceAll (a++b) (o :: old) new=a++Lib.replaceAll b (o :: old) new:=by
 intro a b;induction a with
 | nil=>intro _;rfl
 | cons c a ih =>
  intro h;rw[List.cons_append,jG _ _ _ _ (by simp) hne,ih (fun hh=>h (List.mem_cons_of_mem _ hh))]
  ·rfl
  ·have:(o==c)=false:=by
    rw[beq_eq_false_iff_ne];intro e;exact h (e▸List.mem_cons_self)
   show((o==c)&&_)=false;rw[this];rfl
def dH:List UInt8→List UInt8
 | []=>[]
 | c :: l=>if c=38 then [38,97,109,112,59]++dH l else if c=60 then [38,108,116,59]++dH l else if c=62 then [38,103,116,59]++dH l else if c=34 then [38,113,117,111,116,59]++dH l
  else if c=194∧l.head?=some 160 then [38,110,98,115,112,59]++dH (l.drop 1)else c :: dH l
termination_by l=>l.length
decreasing_by all_goals (simp;try omega)
def rp1 (l:List UInt8):=Lib.replaceAll l [38] [38,97,109,112,59]
def rp2 (l:List UInt8):=Lib.replaceAll l [194,160] [38,110,98,115,112,59]
def rp3 (l:List UInt8):=Lib.replaceAll l [60] [38,108,116,59]
def rp4 (l:List UInt8):=Lib.replaceAll l [62] [38,103,116,59]
def rp5 (l:List UInt8):=Lib.replaceAll l [34] [38,113,117,111,116,59]
theorem aMl (c:UInt8)(l:List UInt8)(h1:c≠38)(h3:c≠60)(h4:c≠62)(h5:c≠34)(h2:c≠194∨(rp1 l).head?≠some 160):rp5 (rp4 (rp3 (rp2 (rp1 (c :: l)))))=c :: rp5 (rp4 (rp3 (rp2 (rp1 l)))):=by
 have one:∀(o:UInt8) (l:List UInt8),c≠o→[o].isPrefixOf (c :: l)=false:=fun o l h=>by
  show((o==c)&&_)=false;rw[beq_eq_false_iff_ne.2 fun e=>h e.symm];rfl
 have e1:rp1 (c :: l)=c :: rp1 l:=jG _ _ c l (by simp) (by simp) (one _ _ h1);have e2:rp2 (c :: rp1 l)=c :: rp2 (rp1 l):=by
  refine jG _ _ c _ (by simp) (by simp) ?_;show((194==c)&&[160].isPrefixOf (rp1 l))=false;rcases h2 with h2|h2
  ·rw[beq_eq_false_iff_ne.2 fun e=>h2 e.symm];rfl
  ·cases hh:rp1 l with
   | nil=>rw[Bool.and_comm];rfl
   | cons d t =>
    rw[hh]at h2
    have:((160:UInt8)==d)=false:=beq_eq_false_iff_ne.2 fun e=>h2 (by rw[←e];rfl)
    show((194==c)&&((160==d)&&_))=false;rw[this,Bool.false_and,Bool.and_false]
 have e3:∀l,rp3 (c :: l)=c :: rp3 l:=fun l=>jG _ _ c l (by simp) (by simp) (one _ _ h3)
 have e4:∀l,rp4 (c :: l)=c :: rp4 l:=fun l=>jG _ _ c l (by simp) (by simp) (one _ _ h4)
 have e5:∀l,rp5 (c :: l)=c :: rp5 l:=fun l=>jG _ _ c l (by simp) (by simp) (one _ _ h5)
 rw[e1,e2,e3,e4,e5]
theorem aKg (l:List UInt8)(h:l.head?≠some 160):(rp1 l).head?≠some 160:=by
 cases l with
 | nil=>unfold rp1;rw[oU _ _ (by simp)];simp
 | cons c l =>
  by_cases hc:c=38
  ·subst hc;have:rp1 (38 :: l)=[38,97,109,112,59]++rp1 l:=oT [38] _ l (by simp) (by simp);rw[this];simp
  ·have:rp1 (c :: l)=c :: rp1 l:=jG _ _ c l (by simp) (by simp) (by
    show((38==c)&&_)=false;rw[beq_eq_false_iff_ne.2 fun e=>hc e.symm];rfl)
   rw[this];exact h
theorem aNH:∀(n:Nat) (l:List UInt8),l.length≤n→rp5 (rp4 (rp3 (rp2 (rp1 l))))=dH l:=by
 intro n;have k2:∀a b:List UInt8,(194:UInt8)∉a→rp2 (a++b)=a++rp2 b:=pH 194 [160] _ (by simp);have k3:∀a b:List UInt8,(60:UInt8)∉a→rp3 (a++b)=a++rp3 b:=pH 60 [] _ (by simp);have k4:∀a b:List UInt8,(62:UInt8)∉a→rp4 (a++b)=a++rp4 b:=pH 62 [] _ (by simp);have k5:∀a b:List UInt8,(34:UInt8)∉a→rp5 (a++b)=a++rp5 b:=pH 34 [] _ (by simp);induction n with
 | zero =>
  intro l hl;obtain rfl:l=[]:=List.eq_nil_of_length_eq_zero (by omega);unfold rp1 rp2 rp3 rp4 rp5 dH;rw[oU _ _ (by simp),oU _ _ (by simp),oU _ _ (by simp),oU _ _ (by simp),oU _ _ (by simp)]
 | succ n ih =>
  intro l hl;cases l with
  | nil=>exact ih [] (by simp)
  | cons c l =>
   have hl':l.length≤n:=by simpa using hl
   unfold dH;by_cases c1:c=38
   ·subst c1;rw[if_pos rfl,←ih l hl'];have:rp1 (38 :: l)=[38,97,109,112,59]++rp1 l:=oT [38] _ l (by simp) (by simp);rw[this,k2 _ _ (by decide),k3 _ _ (by decide),k4 _ _ (by decide),k5 _ _ (by decide)]
   rw[if_neg c1];have o1:rp1 (c :: l)=c :: rp1 l:=jG _ _ c l (by simp) (by simp) (by
    show((38==c)&&_)=false;rw[beq_eq_false_iff_ne.2 fun e=>c1 e.symm];rfl)
   by_cases c2:c=60
   ·subst c2;rw[if_pos rfl,←ih l hl',o1];have e2:rp2 (60 :: rp1 l)=60 :: rp2 (rp1 l):=k2 [60] _ (by decide);have e3:∀x,rp3 (60 :: x)=[38,108,116,59]++rp3 x:=fun x=>oT [60] _ x (by simp) (by simp)
    rw[e2,e3,k4 _ _ (by decide),k5 _ _ (by decide)]
   rw[if_neg c2];by_cases c3:c=62
   ·subst c3;rw[if_pos rfl,←ih l hl',o1];have e2:rp2 (62 :: rp1 l)=62 :: rp2 (rp1 l):=k2 [62] _ (by decide);have e3:∀x,rp3 (62 :: x)=62 :: rp3 x:=fun x=>k3 [62] _ (by decide)
    have e4:∀x,rp4 (62 :: x)=[38,103,116,59]++rp4 x:=fun x=>oT [62] _ x (by simp) (by simp)
    rw[e2,e3,e4,k5 _ _ (by decide)]
   rw[if_neg c3];by_cases c4:c=34
   ·subst c4;rw[if_pos rfl,←ih l hl',o1];have e2:rp2 (34 :: rp1 l)=34 :: rp2 (rp1 l):=k2 [34] _ (by decide);have e3:∀x,rp3 (34 :: x)=34 :: rp3 x:=fun x=>k3 [34] _ (by decide)
    have e4:∀x,rp4 (34 :: x)=34 :: rp4 x:=fun x=>k4 [34] _ (by decide)
    have e5:∀x,rp5 (34 :: x)=[38,113,117,111,116,59]++rp5 x:=fun x=>oT [34] _ x (by simp) (by simp)
    rw[e2,e3,e4,e5]
   rw[if_neg c4];by_cases c5:c=194∧l.head?=some 160
   ·rw[if_pos c5];obtain⟨rfl,h160⟩:=c5;cases l with
    | nil=>cases h160
    | cons d l =>
     obtain rfl:d=160:=by simpa using h160
     have hl2:l.length≤n:=by simp at hl';omega
     show _=[38,110,98,115,112,59]++dH l;rw[←ih l hl2,o1];have e1:rp1 (160 :: l)=160 :: rp1 l:=pH 38 [] _ (by simp) [160] l (by decide);have e2:∀x,rp2 (194 :: 160 :: x)=[38,110,98,115,112,59]++rp2 x:=fun x=>oT [194,160] _ x (by simp) (by simp)
     rw[e1,e2,k3 _ _ (by decide),k4 _ _ (by decide),k5 _ _ (by decide)]
   ·rw[if_neg c5,aMl c l c1 c2 c3 c4 ?_,ih l hl'];by_cases c6:c=194
    ·exact .inr (aKg l fun h=>c5 ⟨c6,h⟩)
    ·exact .inl c6
open Go.RowKit
theorem aLo (s:ByteArray):fC s=⟨(dH s.data.toList).toArray⟩:=by
 refine gE ?_;show rp5 (rp4 (rp3 (rp2 (rp1 s.data.toList))))=_;rw[aNH _ _ (Nat.le_refl _)]
structure cW (s:List UInt8) (k:Nat) (bs:List UInt8):Prop where
 le:k≤s.length
 sz:bs.length≤6*k
 out:dH s=bs++dH (s.drop k)
theorem cW.start (s:List UInt8):cW s 0 []:=⟨Nat.zero_le _,Nat.le_refl _,rfl⟩
theorem cW.put {s:List UInt8}{k:Nat}{bs:List UInt8}(h:cW s k bs)(hk:k<s.length)(o:UInt8)(t:List UInt8)(ho:s[k]=o)(ht:t.length≤6)
  (hc:∀l,dH (o :: l)=t++dH l):cW s (k+1) (bs++t):=by
 have h1:=h.sz;refine⟨hk,by rw[List.length_append];omega,?_⟩;rw[h.out,List.drop_eq_getElem_cons hk,ho,hc,List.append_assoc]
theorem aM9 (l:List UInt8):dH (38 :: l)=[38,97,109,112,59]++dH l:=by
 conv=>lhs;unfold dH
 rfl
theorem cW.amp {s:List UInt8}{k:Nat}{bs:List UInt8}(h:cW s k bs)(hk:k<s.length)(hc:s[k]=38):cW s (k+1) (bs++[38,97,109,112,59]):=h.put hk 38 [38,97,109,112,59] hc (by decide) aM9
theorem aNa (l:List UInt8):dH (60 :: l)=[38,108,116,59]++dH l:=by
 conv=>lhs;unfold dH
 rfl
theorem cW.lt {s:List UInt8}{k:Nat}{bs:List UInt8}(h:cW s k bs)(hk:k<s.length)(hc:s[k]=60):cW s (k+1) (bs++[38,108,116,59]):=h.put hk 60 [38,108,116,59] hc (by decide) aNa
theorem aNb (l:List UInt8):dH (62 :: l)=[38,103,116,59]++dH l:=by
 conv=>lhs;unfold dH
 rfl
theorem cW.gt {s:List UInt8}{k:Nat}{bs:List UInt8}(h:cW s k bs)(hk:k<s.length)(hc:s[k]=62):cW s (k+1) (bs++[38,103,116,59]):=h.put hk 62 [38,103,116,59] hc (by decide) aNb
theorem aM8 (l:List UInt8):dH (34 :: l)=[38,113,117,111,116,59]++dH l:=by
 conv=>lhs;unfold dH
 rfl
theorem cW.quot {s:List UInt8}{k:Nat}{bs:List UInt8}(h:cW s k bs)(hk:k<s.length)(hc:s[k]=34):cW s (k+1) (bs++[38,113,117,111,116,59]):=h.put hk 34 [38,113,117,111,116,59] hc (by decide) aM8
theorem cW.nbsp {s:List UInt8}{k:Nat}{bs:List UInt8}(h:cW s k bs)(hp:[194,160].isPrefixOf (s.drop k)=true):cW s (k+2) (bs++[38,110,98,115,112,59]):=by
 have h1:=h.sz;rw[List.isPrefixOf_iff_prefix]at hp
 obtain⟨t,ht⟩:=hp;have hl:k+2≤s.length:=by
  have:=congrArg List.length ht;simp only[List.length_append,List.length_cons,List.length_nil,List.length_drop]at this;omega
 have e:s.drop (k+2)=t:=by rw[←List.drop_drop,←ht];rfl
 refine⟨hl,by rw[List.length_append];simp;omega,?_⟩;rw[h.out,e,←ht,List.append_assoc];congr 1;show dH (194 :: 160 :: t)=_;conv=>lhs;unfold dH
 rfl
theorem cW.rest {s:List UInt8}{k:Nat}{bs:List UInt8}(h:cW s k bs)(hk:k<s.length)(h1:s[k]≠38)(h2:s[k]≠60)(h3:s[k]≠62)(h4:s[k]≠34)(hp:[194,160].isPrefixOf (s.drop k)=false):cW s (k+1) (bs++[s[k]]):=by
 have hz:=h.sz;refine⟨hk,by rw[List.length_append];simp;omega,?_⟩;rw[List.drop_eq_getElem_cons hk]at hp
 rw[h.out,List.drop_eq_getElem_cons hk,List.append_assoc];congr 1;conv=>lhs;unfold dH
 rw[if_neg h1,if_neg h2,if_neg h3,if_neg h4,if_neg ?_]
 ·rfl
 ·rintro⟨c1,c2⟩;rw[c1]at hp
  cases hd:s.drop (k+1)with
  | nil=>rw[hd]at c2;cases c2
  | cons d t =>
   rw[hd]at c2 hp
   obtain rfl:d=160:=by simpa using c2
   simp at hp
theorem cW.done {s:List UInt8}{k:Nat}{bs:List UInt8}(h:cW s k bs)(hk:s.length≤k):dH s=bs:=by
 rw[h.out,List.drop_eq_nil_of_le hk];unfold dH;rw[List.append_nil]
theorem aCO (s:ByteArray)(k:Nat):(s.extract k s.size).data.toList=s.data.toList.drop k:=by
 rw[ByteArray.data_extract,Array.toList_extract];simp[List.extract];have:s.size=s.data.toList.length:=rfl;rw[this];exact List.take_of_length_le (by simp)
theorem aFx (s t:ByteArray)(w:World):Calls Tryz.prog 154 #[.string s,.string t] w fun e w'=>e=.returned (.bool (t.data.toList.isPrefixOf s.data.toList))∧w=w':=by
 rcases Nat.lt_or_ge s.size t.size with h|h
 ·have hb:t.data.toList.isPrefixOf s.data.toList=false:=by
   rw[←Bool.not_eq_true,List.isPrefixOf_iff_prefix];intro hp;have:=hp.length_le;have e1:t.data.toList.length=t.size:=rfl;have e2:s.data.toList.length=s.size:=rfl;omega
  rw[hb];clear hb;go_enter Tryz.func154,Tryz.ntmps154
  go_wp2
  go_ret;exact⟨rfl,rfl⟩
 ·have hx:((s.extract 0 t.size).toList==t.toList)=t.data.toList.isPrefixOf s.data.toList:=by
   rw[fZ,toList_data,Bool.eq_iff_iff,beq_iff_eq,List.isPrefixOf_iff_prefix,List.prefix_iff_eq_take];unfold dX;rw[List.drop_zero];exact eq_comm
  generalize t.data.toList.isPrefixOf s.data.toList=b at *
  go_enter Tryz.func154,Tryz.ntmps154
  go_wp2
  go_ret;exact⟨rfl,rfl⟩
section
variable {ops:Array Oper} {rest:List Oper} {o:Oper} {a:Act} {Q:Exit→Act→World→Prop}
theorem eY {w:World}(hgd:o.guard=none)(sl x:Operand)(ho:o.op=.call { callee:=.builtin .append,args:=#[sl,x],argTypes:=#[35,9] })
  (i:TypeInfo) (hi:Tryz.prog.info? 5=some i) (hz:i.zero=some (.int .u8 0)) (hsize:i.size=1) (hby:i.bytes=1)
  {B:Nat} {W0:World} (v:Value) (bs L:List UInt8) (hs:a.eval sl=v) (hO:aM B 5 1 v bs.length (bs.map cO) W0 w)
  (s:ByteArray) (hx:a.eval x=.string s) (hL:s.data.toList=L) (hn:bs.length+L.length≤140737488355328)
  (h:∀v' w',Hid (aM B 5 1 v' (bs++L).length ((bs++L).map cO) W0 w')→wpList Tryz.prog ops Q rest (a.put o.dst v') w'):wpList Tryz.prog ops Q (o :: rest) a w:=by
 have hl:s.size=L.length:=by rw[←hL];rfl
 refine Lib.wpList_append_own_string _ hgd sl x 35 9 ho B 5 i Tryz.underlying35 Tryz.underlying9 hi hz hsize hby v bs.length _ hs hO.own s hx (by unfold maxLen;omega) (by omega) hO.base ?_;intro v' w' ho' hg _;refine h v' w' (aM.cast ⟨ho',hO.bel.grown hg hO.base hO.lo,Nat.le_trans hO.base hg.size⟩ (by rw[List.length_append,hl]) ?_);rw[List.map_append,←hL];rfl
end
theorem aKb (s:ByteArray)(hs:s.size≤20000000)(w:World):Calls Tryz.prog 96 #[.string s,.bool true] w fun e w'=>e=.returned (.string (fC s))∧Below w.heap.size w w':=by
 obtain⟨i0,hi,hz0,hz1,hz2⟩:=info_parts Tryz.info5;rw[aLo];go_enter Tryz.func96,Tryz.ntmps96
 go_wp2
 go_loopw [5,6] (fun o i wx=>∃(k:Nat) (bs:List UInt8),i=.int .i64 k∧Hid (cW s.data.toList k bs)∧Hid (aM w.heap.size 5 1 o bs.length (bs.map cO) w wx)) (fun _ i _=>s.size-(intOf i).toNat)
 case atStart=>exact⟨0,[],rfl,hid (cW.start _),hid (aM.nil w 5 1)⟩
 case round =>
  obtain⟨k,bs,rfl,hK,hO⟩:=hrel;have hkt:k≤s.size:=hK.out.le;have hsz:=hK.out.sz;rcases Nat.lt_or_ge k s.size with hlt|hge
  ·have hb8:=s[k].toNat_lt;have HA:=hid (hK.out.amp hlt);have HL:=hid (hK.out.lt hlt);have HG:=hid (hK.out.gt hlt);have HQ:=hid (hK.out.quot hlt);have HN:=hid hK.out.nbsp;have HR:=hid (hK.out.rest hlt);have e:s.data.toList[k]'hlt=s[k]:=rfl;rw[e]at HA HL HG HQ HR
   clear e;by_cases h1:s[k]=38
   ·have HF:=hid (HA.out h1);have t1:((s[k].toNat:Int)==38)=true:=by rw[h1];rfl
    clear h1;go_wp2_with (at_builtin;refine eY (by rfl) _ _ (by rfl) i0 hi hz0 hz1 hz2 _ bs [38,97,109,112,59] rfl hO.out _ rfl rfl (by simp;omega) ?_)
    intro v' w' hO';go_wp2
    go_roundw
    case rel=>exact⟨k+1,_,by go_num,HF,hid (hO'.out.cast (by simp) (by simp))⟩
    case measure=>simp[intOf];omega
   have t1:((s[k].toNat:Int)==38)=false:=by rw[beq_eq_false_iff_ne];exact fun e=>h1 (UInt8.toNat_inj.1 (by show _=38;omega))
   by_cases h2:s[k]=60
   ·have HF:=hid (HL.out h2);have t2:((s[k].toNat:Int)==60)=true:=by rw[h2];rfl
    clear h1 h2;go_wp2_with (at_builtin;refine eY (by rfl) _ _ (by rfl) i0 hi hz0 hz1 hz2 _ bs [38,108,116,59] rfl hO.out _ rfl rfl (by simp;omega) ?_)
    intro v' w' hO';go_wp2
    go_roundw
    case rel=>exact⟨k+1,_,by go_num,HF,hid (hO'.out.cast (by simp) (by simp))⟩
    case measure=>simp[intOf];omega
   have t2:((s[k].toNat:Int)==60)=false:=by rw[beq_eq_false_iff_ne];exact fun e=>h2 (UInt8.toNat_inj.1 (by show _=60;omega))
   by_cases h3:s[k]=62
   ·have HF:=hid (HG.out h3);have t3:((s[k].toNat:Int)==62)=true:=by rw[h3];rfl
    clear h1 h2 h3;go_wp2_with (at_builtin;refine eY (by rfl) _ _ (by rfl) i0 hi hz0 hz1 hz2 _ bs [38,103,116,59] rfl hO.out _ rfl rfl (by simp;omega) ?_)
    intro v' w' hO';go_wp2
    go_roundw
    case rel=>exact⟨k+1,_,by go_num,HF,hid (hO'.out.cast (by simp) (by simp))⟩
    case measure=>simp[intOf];omega
   have t3:((s[k].toNat:Int)==62)=false:=by rw[beq_eq_false_iff_ne];exact fun e=>h3 (UInt8.toNat_inj.1 (by show _=62;omega))
   by_cases h4:s[k]=34
   ·have HF:=hid (HQ.out h4);have t4:((s[k].toNat:Int)==34)=true:=by rw[h4];rfl
    clear h1 h2 h3 h4;go_wp2_with (at_builtin;refine eY (by rfl) _ _ (by rfl) i0 hi hz0 hz1 hz2 _ bs [38,113,117,111,116,59] rfl hO.out _ rfl rfl (by simp;omega) ?_)
    intro v' w' hO';go_wp2
    go_roundw
    case rel=>exact⟨k+1,_,by go_num,HF,hid (hO'.out.cast (by simp) (by simp))⟩
    case measure=>simp[intOf];omega
   have t4:((s[k].toNat:Int)==34)=false:=by rw[beq_eq_false_iff_ne];exact fun e=>h4 (UInt8.toNat_inj.1 (by show _=34;omega))
   have BG:∀W,Calls Tryz.prog 154 #[.string (s.extract k s.size),.string ⟨#[194,160]⟩] W fun e w'=>e=.returned (.bool ([194,160].isPrefixOf (s.data.toList.drop k)))∧W=w':=fun W=>by
    have:=aFx (s.extract k s.size) ⟨#[194,160]⟩ W;rw[aCO]at this
    exact this
   cases hp:[194,160].isPrefixOf (s.data.toList.drop k)with
   | true =>
    have HF:=hid (HN.out hp);rw[hp]at BG
    have HBG:=hid BG;clear h1 h2 h3 h4 hp BG;go_wp2_with fail
    refine(HBG.out _).mono ?_;rintro x w' ⟨rfl,rfl⟩;go_wp2_with (at_builtin;refine eY (by rfl) _ _ (by rfl) i0 hi hz0 hz1 hz2 _ bs [38,110,98,115,112,59] rfl hO.out _ rfl rfl (by simp;omega) ?_)
    intro v' w' hO';go_wp2
    go_roundw
    case rel=>exact⟨k+1+1,_,by go_num,HF,hid (hO'.out.cast (by simp) (by simp))⟩
    case measure=>simp[intOf];omega
   | false =>
    have HF:=hid (HR.out h1 h2 h3 h4 hp);rw[hp]at BG
    have HBG:=hid BG;clear h1 h2 h3 h4 hp BG;go_wp2_with fail
    refine(HBG.out _).mono ?_;rintro x w' ⟨rfl,rfl⟩;go_wp2_with (at_builtin;refine bC (by rfl) _ _ 35 (by rfl) 5 i0 (.int .u8 0) 1 1 Tryz.underlying35 hi hz0 hz1 hz2 rfl (by decide) _ _ _ rfl hO.out #[.int .u8 s[k].toNat] rfl rfl rfl rfl (by omega) (by omega) ?_)
    intro v' w' hO' _;go_wp2
    go_roundw
    case rel=>exact⟨k+1,bs++[s[k]],by go_num,HF,hid (hO'.out.cast (by simp) (by simp[cO]))⟩
    case measure=>simp[intOf];omega
  ·have HX:=hid (hK.out.done hge);obtain⟨a,c,rfl,hac,_⟩:=hO.out.slice;have hI:=hO.out.isB rfl;have hcv:=nT (P:=Tryz.prog) wr 35 5 9 Tryz.underlying35 Tryz.underlying5 Tryz.underlying9 a bs bs.length c rfl hI;have HB:=hid hO.out.bel;clear hI;go_wp2
   go_ret;exact⟨by rw[HX.out];rfl,HB.out⟩
end Go.Proofs.YtcfgbdhpcboikaaGreatDoor
