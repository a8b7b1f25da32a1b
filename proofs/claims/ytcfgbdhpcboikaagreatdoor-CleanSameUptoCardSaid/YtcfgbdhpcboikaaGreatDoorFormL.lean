/-
policy.form as a plain function: which form a value has, by its element and its attribute.
-/
import Derived.Test.YtcfgbdhpcboikaaGreatDoorTxtB
import Derived.Test.YtcfgbdhpcboikaaGreatDoorAtofB
import Derived.Test.YtcfgbdhpcboikaaGreatDoorDecV
namespace Go.Proofs.YtcfgbdhpcboikaaGreatDoor
open Go.Lib (hid)
set_option maxHeartbeats 4000000
set_option maxRecDepth 100000
open Go.RowKit
theorem aAw {n:Nat}:n≤n:=Nat.le_refl n
def uG:ByteArray:=⟨#[108,97,110,103]⟩
def aBx:ByteArray:=⟨#[100,105,114]⟩
def aDX:ByteArray:=⟨#[115,114,99]⟩
def jR:ByteArray:=⟨#[105,109,103]⟩
def aDU:ByteArray:=⟨#[97,108,116]⟩
def qC:ByteArray:=⟨#[104,101,105,103,104,116]⟩
def sY:ByteArray:=⟨#[119,105,100,116,104]⟩
def sOl:ByteArray:=⟨#[111,108]⟩
def sX:ByteArray:=⟨#[115,116,97,114,116]⟩
def sTd:ByteArray:=⟨#[116,100]⟩
def sTh:ByteArray:=⟨#[116,104]⟩
def kO:ByteArray:=⟨#[99,111,108,115,112,97,110]⟩
def kP:ByteArray:=⟨#[114,111,119,115,112,97,110]⟩
def jH:ByteArray:=⟨#[109,101,116,101,114]⟩
def mI:ByteArray:=⟨#[112,114,111,103,114,101,115,115]⟩
def vZ:ByteArray:=⟨#[109,97,120]⟩
def oP:ByteArray:=⟨#[118,97,108,117,101]⟩
def aCW:ByteArray:=⟨#[104,105,103,104]⟩
def aFP:ByteArray:=⟨#[108,111,119]⟩
def aFR:ByteArray:=⟨#[109,105,110]⟩
def aAM:ByteArray:=⟨#[97,117,116,111]⟩
def aDV:ByteArray:=⟨#[108,116,114]⟩
def aDW:ByteArray:=⟨#[114,116,108]⟩
def aNd:ByteArray:=⟨#[104,116,116,112]⟩
def aMD:ByteArray:=⟨#[104,116,116,112,115]⟩
inductive FK where
 | text|lang|dir|linkA|linkI|whole (lo hi:Nat)|fix|none
deriving DecidableEq
def wZ (e n:ByteArray):Bool:=(decide (e=jH)&&(decide (n=vZ)||decide (n=oP)||decide (n=aCW)||decide (n=aFP)||decide (n=aFR)))||(decide (e=mI)&&(decide (n=vZ)||decide (n=oP)))
def kZ (e n:ByteArray):FK :=
 if n=aX then .text else if n=uG then .lang else if n=aBx then .dir
 else if e=sA∧n=aAN then .linkA
 else if e=jR∧n=aDX then .linkI
 else if e=jR∧n=aDU then .text
 else if e=jR∧(n=qC∨n=sY)then .whole 0 9999
 else if e=sOl∧n=sX then .whole 0 999999
 else if (e=sTd∨e=sTh)∧(n=kO∨n=kP)then .whole 1 1000
 else if wZ e n=true then .fix
 else .none
def aE0 (c:UInt8):Bool:=(decide (97≤c.toNat)&&decide (c.toNat≤122))||(decide (65≤c.toNat)&&decide (c.toNat≤90))
def xB (c:UInt8)(i:Nat):Bool:=aE0 c||(decide (0<i)&&(decide (c.toNat=45)||(decide (48≤c.toNat)&&decide (c.toNat≤57))))
def aBr (l:List UInt8):Prop:=∀j (h:j<l.length),xB l[j] j=true
def tU (v:ByteArray):Prop:=aBr v.data.toList∧1≤v.size∧v.size≤16
def yQ (v:ByteArray):Prop:=v=aAM∨v=aDV∨v=aDW
def aMM (lo hi:Nat)(v:ByteArray):Prop:=∃x,eY v lo hi x true
def mJ (v:ByteArray):ByteArray:=⟨(cZ v.data.toList).toArray⟩
def zR:List ByteArray:=[aNd,aMD]
structure aJ2 (v t:ByteArray):Prop where
 sz:t.size≤25
 num:iC t.data.toList=true
 yes:∀w,aB w→Calls Tryz.prog 20 #[.string v] w fun e w'=>e=.returned (.tuple #[.string t,.bool true])∧Below w.heap.size w w'
 again:∀w,aB w→Calls Tryz.prog 20 #[.string t] w fun e w'=>e=.returned (.tuple #[.string t,.bool true])∧Below w.heap.size w w'
def aJ3 (v:ByteArray):Prop:=∀w,aB w→Calls Tryz.prog 20 #[.string v] w fun e w'=>e=.returned (.tuple #[.string ⟨#[]⟩,.bool false])∧Below w.heap.size w w'
def qT (k:FK)(v:ByteArray):Option ByteArray→Prop
 | some t=>match k with
  | .text=>t=cL v
  | .lang=>tU v∧t=v
  | .dir=>yQ (mJ v)∧t=mJ v
  | .linkA=>kF uN (dG v.data.toList)=true∧t=qY v
  | .linkI=>kF zR (dG v.data.toList)=true∧t=qY v
  | .whole lo hi=>aMM lo hi v∧t=v
  | .fix=>aJ2 v t
  | .none=>False
 | none=>match k with
  | .text=>False
  | .lang=>¬tU v
  | .dir=>¬yQ (mJ v)
  | .linkA=>kF uN (dG v.data.toList)=false
  | .linkI=>kF zR (dG v.data.toList)=false
  | .whole lo hi=>∃x,eY v lo hi x false
  | .fix=>aJ3 v
  | .none=>True
def jZ (e n v:ByteArray)(o:Option ByteArray):Prop :=
 match o with
 | some t=>¬(bR e.data.toList<2∨bR e.data.toList=14)∧qT (kZ e n) v (some t)∧(nF t).size≤120
 | none=>(bR e.data.toList<2∨bR e.data.toList=14)∨qT (kZ e n) v none∨∃t,qT (kZ e n) v (some t)∧120<(nF t).size
theorem aGK {v:ByteArray}(h:yQ v):mJ v=v:=by
 rcases h with rfl|rfl|rfl<;>exact gU (by decide)
theorem aFx {k:FK}{v t:ByteArray}(h:qT k v (some t)):qT k t (some t):=by
 cases k with
 | text=>subst h;exact(aF1 v).symm
 | lang=>obtain⟨h1,rfl⟩:=h;exact⟨h1,rfl⟩
 | dir =>
  obtain⟨h1,h2⟩:=h;rw[←h2]at h1
  have e:=aGK h1;exact⟨by rw[e];exact h1,e.symm⟩
 | linkA =>
  obtain⟨h1,rfl⟩:=h;exact⟨by rw[pO,vL];exact h1,(aAu v).symm⟩
 | linkI =>
  obtain⟨h1,rfl⟩:=h;exact⟨by rw[pO,vL];exact h1,(aAu v).symm⟩
 | whole lo hi=>obtain⟨h1,rfl⟩:=h;exact⟨h1,rfl⟩
 | fix=>exact⟨h.sz,h.num,h.again,h.again⟩
 | none=>exact h
theorem aEM {e n v t:ByteArray}(h:jZ e n v (some t)):jZ e n t (some t):=⟨h.1,aFx h.2.1,h.2.2⟩
open Go.RowKit
def rX (l:List UInt8)(k:Nat):Prop:=k≤l.length∧∀j (h:j<l.length),j<k→xB l[j] j=true
theorem rX.step {l:List UInt8}{k:Nat}(h:rX l k)(hk:k<l.length)(hb:xB l[k] k=true):rX l (k+1) :=
 ⟨hk,fun j hj hlt=>by
  rcases Nat.lt_or_ge j k with h1|h1
  ·exact h.2 j hj h1
  ·obtain rfl:j=k:=by omega
   exact hb⟩
theorem aJk {l:List UInt8}{k:Nat}(hk:k<l.length)(hb:xB l[k] k=false):¬aBr l:=fun h=>by
 have:=h k hk;rw[hb]at this
 cases this
theorem aDt (c:UInt8)(d k:Nat)(h:c.toNat=d):xB c k=(((decide (97≤d)&&decide (d≤122))||(decide (65≤d)&&decide (d≤90)))||(decide (0<k)&&(decide (d=45)||(decide (48≤d)&&decide (d≤57))))):=by
 unfold xB aE0;rw[h]
structure yI (v:ByteArray) (k d:Nat):Prop where
 yes:(((decide (97≤d)&&decide (d≤122))||(decide (65≤d)&&decide (d≤90)))||(decide (0<k)&&(decide (d=45)||(decide (48≤d)&&decide (d≤57)))))=true→rX v.data.toList (k+1)
 no:(((decide (97≤d)&&decide (d≤122))||(decide (65≤d)&&decide (d≤90)))||(decide (0<k)&&(decide (d=45)||(decide (48≤d)&&decide (d≤57)))))=false→¬tU v
theorem yI.of (v:ByteArray)(k d:Nat)(hk:k<v.data.toList.length)(h:rX v.data.toList k)(hd:v.data.toList[k].toNat=d):yI v k d :=
 ⟨fun hy=>by rw[←aDt _ d k hd]at hy;exact h.step hk hy,fun hn hp=>by rw[←aDt _ d k hd]at hn;exact aJk hk hn hp.1⟩
theorem aJj (v:ByteArray)(hv:v.size≤140737488355328)(b:Bool)(hb:Hid (b=true↔tU v))(w:World):Calls Tryz.prog 142 #[.string v] w fun e w'=>e=.returned (.bool b)∧Below w.heap.size w w':=by
 obtain⟨cap,W,hrun,hbel,hby,hcap,hsz⟩:=tJ v w;have HB:=hid hbel;have HY:Hid (eI W w.heap.size 0 v.data.toList):=hby;have HNO:Hid (¬tU v→b=false):=fun h=>by
  cases b with
  | false=>rfl
  | true=>exact absurd (hb.out.1 rfl) h
 clear hbel hby hcap hsz;go_enter Tryz.func142,Tryz.ntmps142
 go_wp2
 clear hrun;go_loop [2,9] (fun r i=>r=.bool false∧∃k:Nat,i=.int .i64 k∧Hid (rX v.data.toList k)) (fun _ i=>v.size-(intOf i).toNat)
 case atStart=>exact⟨rfl,0,rfl,hid ⟨Nat.zero_le _,fun j hj h0=>absurd h0 (by omega)⟩⟩
 case round =>
  obtain⟨rfl,k,rfl,hR⟩:=hrel;rcases Nat.lt_or_ge k v.size with hlt|hge
  ·have hcell:=HY.out k hlt;obtain⟨d,hd⟩:∃d,(v.data.toList[k]'hlt).toNat=d:=⟨_,rfl⟩
   have HS:=hid (yI.of v k d hlt hR.out hd);have hd8:d<256:=by rw[←hd];exact(v.data.toList[k]'hlt).toNat_lt
   rw[hd,Nat.zero_add]at hcell
   clear hd;have hcases:(97≤d∧d≤122)∨(65≤d∧d≤90)∨d=45∨(48≤d∧d≤57)∨(d<45∨(45<d∧d<48)∨(57<d∧d<65)∨(90<d∧d<97)∨122<d):=by omega
   rcases hcases with⟨h,h2⟩|⟨h,h2⟩|rfl|⟨h,h2⟩|h
   ·have HF:=hid (HS.out.yes (by simp;omega));have l1:decide ((d:Int)≤122)=true:=by simp;omega
    go_wp2
    go_round
    case rel=>exact⟨rfl,k+1,by go_num,HF⟩
    case measure=>simp[intOf];omega
   ·have HF:=hid (HS.out.yes (by simp;omega));have l1:decide ((d:Int)≤90)=true:=by simp;omega
    go_wp2
    go_round
    case rel=>exact⟨rfl,k+1,by go_num,HF⟩
    case measure=>simp[intOf];omega
   ·rcases Nat.eq_zero_or_pos k with hk0|hk0
    ·subst hk0;have HF:=hid (HNO.out (HS.out.no (by simp)));go_wp2
     go_ret;exact⟨by rw[HF.out];rfl,HB.out⟩
    ·have HF:=hid (HS.out.yes (by simp;omega));have tk:((k:Int)==0)=false:=by rw[beq_eq_false_iff_ne];omega
     go_wp2
     go_round
     case rel=>exact⟨rfl,k+1,by go_num,HF⟩
     case measure=>simp[intOf];omega
   ·have t45:((d:Int)==45)=false:=by rw[beq_eq_false_iff_ne];omega
    have t45':((d:Int) !=45)=true:=by rw[bne_iff_ne];omega
    have l1:decide ((d:Int)≤57)=true:=by simp;omega
    rcases Nat.eq_zero_or_pos k with hk0|hk0
    ·subst hk0;have HF:=hid (HNO.out (HS.out.no (by simp;omega)));go_wp2
     go_ret;exact⟨by rw[HF.out];rfl,HB.out⟩
    ·have HF:=hid (HS.out.yes (by simp;omega));have tk:((k:Int)==0)=false:=by rw[beq_eq_false_iff_ne];omega
     go_wp2
     go_round
     case rel=>exact⟨rfl,k+1,by go_num,HF⟩
     case measure=>simp[intOf];omega
   ·have t45:((d:Int)==45)=false:=by rw[beq_eq_false_iff_ne];omega
    have t45':((d:Int) !=45)=true:=by rw[bne_iff_ne];omega
    have HF:=hid (HNO.out (HS.out.no (by simp;omega)));rcases Nat.eq_zero_or_pos k with hk0|hk0
    ·subst hk0;rcases h with h|⟨h,h2⟩|⟨h,h2⟩|⟨h,h2⟩|h
     all_goals
      try have l1:decide ((d:Int)≤122)=false:=by simp;omega
      try have l2:decide ((d:Int)≤90)=false:=by simp;omega
      try have l3:decide ((d:Int)≤57)=false:=by simp;omega
      go_wp2
      go_ret;exact⟨by rw[HF.out];rfl,HB.out⟩
    ·have tk:((k:Int)==0)=false:=by rw[beq_eq_false_iff_ne];omega
     rcases h with h|⟨h,h2⟩|⟨h,h2⟩|⟨h,h2⟩|h
     all_goals
      try have l1:decide ((d:Int)≤122)=false:=by simp;omega
      try have l2:decide ((d:Int)≤90)=false:=by simp;omega
      try have l3:decide ((d:Int)≤57)=false:=by simp;omega
      go_wp2
      go_ret;exact⟨by rw[HF.out];rfl,HB.out⟩
  ·have hall:aBr v.data.toList:=fun j hj=>hR.out.2 j hj (by have:v.data.toList.length=v.size:=rfl;omega)
   have HX:Hid (1≤v.size∧v.size≤16→b=true):=fun h=>hb.out.2 ⟨hall,h.1,h.2⟩
   have HN:Hid (¬(1≤v.size∧v.size≤16)→b=false):=fun h=>HNO.out fun hp=>h hp.2
   clear hall;rcases Nat.lt_or_ge v.size 1 with h1|h1
   ·have HF:=hid (HN.out (by omega));go_wp2
    go_ret;exact⟨by rw[HF.out];rfl,HB.out⟩
   ·rcases Nat.lt_or_ge 16 v.size with h2|h2
    ·have HF:=hid (HN.out (by omega));have l16:decide ((v.size:Int)≤16)=false:=by simp;omega
     go_wp2
     go_ret;exact⟨by rw[HF.out];rfl,HB.out⟩
    ·have HF:=hid (HX.out ⟨h1,h2⟩);have l16:decide ((v.size:Int)≤16)=true:=by simp;omega
     go_wp2
     go_ret;exact⟨by rw[HF.out];rfl,HB.out⟩
open Go.RowKit
theorem aIH (s:ByteArray)(hn:iC s.data.toList=true):aFf s:=by
 obtain⟨neg,p0,q,ev,hs,hsg,N,hE,SP⟩:=aFE s hn;have hlt:=N.lt;have hle:=N.le;have hch:=uA s p0 q N q (Nat.le_of_lt hlt) aAw;have hpl:=kK s p0 q (Nat.le_of_lt hlt) hle;have RD:uW s (aO (aK s p0 q)).mant ((aO (aK s p0 q)).expo ev) neg (aO (aK s p0 q)).trunc:=fun w=>zG s neg p0 q w hs hsg N ev hE
 have rb:=aAH s p0 q N q (Nat.le_of_lt hlt) aAw;have so:=aD5 neg (aK s p0 q) (by omega) hch;have few:=aB3 (aK s p0 q) hch;have SF:∀w B,aE w B aA5→Calls Tryz.prog 240 #[.pointer (some ⟨B,0,none⟩),.string s] w fun e w'=>e=.returned (.bool true)∧aE w' B (aD0 neg (aK s p0 q) ev)∧aF (· = B) w w' :=
  fun w B h=>aLs B s neg p0 q w h hs hsg N ev hE
 have hm:=rb.mant;have h19:=aKg (aO (aK s p0 q)).ndM (by have:=rb.ndM;omega);refine aII s _ _ neg _ hs SP RD (by omega) (aD0 neg (aK s p0 q) ev) ⟨so.len,?_,so.dig,so.head⟩ so.neg ?_ SF
 ·have:=so.le;show(iH neg (aK s p0 q)).nd≤800;omega
 ·intro hm0 ht;have h20:20≤(aO (aK s p0 q)).nd:=by
   refine Nat.le_of_not_lt fun h=>?_
   rw[few (by omega)]at ht
   cases ht
  refine⟨?_,?_⟩
  ·show 1≤(iH neg (aK s p0 q)).nd;have:=so.nd;omega
  ·unfold RS.expo;rw[if_neg hm0];have:=rb.ndM;show(aO (aK s p0 q)).place+ev-_+19=(aO (aK s p0 q)).place+ev;omega
open Go.RowKit
theorem aKU (w0:World)(T0:aB w0)(v:ByteArray)(hv:v.size≤maxLen):(∃t,aJ2 v t)∨aJ3 v:=by
 rcases aHs aIH v hv with⟨neg,b,hb,hp⟩|h
 ·obtain⟨t,ht⟩:=aLj neg b hb;refine .inl ⟨t,ht.sz,?_,fun w T=>aJ9 v _ t w T hp ht.pr,ht.fx⟩;cases hn:iC t.data.toList with
  | true=>rfl
  | false =>
   have h1:=fun w (_:aB w)=>aDJ t w (by have:=ht.sz;unfold maxLen;omega) hn
   have h2:=aGV t w0 T0 (fun w T=>gZ (h1 w T));have h3:=ht.fx w0 T0;have:=aBH (by kernel_rfl) h3 h2;simp at this
 ·exact .inr fun w T=>aGV v w T h
open Go.RowKit
theorem iZ (v:ByteArray)(lo hi:Nat)(n:Int)(b:Bool)(h:eY v lo hi n b)(w:World):Calls Tryz.prog 144 #[.string v,.int .i64 lo,.int .i64 hi] w fun e w'=>e=.returned (.tuple #[.string v,.bool b])∧Below w.heap.size w w':=by
 have H1:=hid h.one;clear h;go_enter Tryz.func144,Tryz.ntmps144
 go_wp2_with fail
 refine(H1.out _).mono ?_;rintro e w1 ⟨rfl,B1⟩;have HB:=hid B1;clear B1;go_wp2
 go_ret2;exact⟨rfl,HB.out⟩
theorem aBT (e v:ByteArray)(hv:v.size≤140737488355328)(b:Bool)(hb:Hid (b=true↔tU v)):cK e uG v v b:=by
 intro w T;have HL:=hid (aJj v hv b hb);clear T;unfold uG;go_enter Tryz.func83,Tryz.ntmps83
 go_wp2_with fail
 refine(HL.out _).mono ?_;rintro x w1 ⟨rfl,B1⟩;have HB:=hid B1;clear B1;go_wp2
 go_ret2;exact⟨rfl,HB.out⟩
theorem aLR:(⟨#[105,109,103]⟩:ByteArray)++⟨#[32]⟩=⟨#[105,109,103,32]⟩:=by decide
theorem aL0:(⟨#[105,109,103,32]⟩:ByteArray)++⟨#[115,114,99]⟩=⟨#[105,109,103,32,115,114,99]⟩:=by decide
theorem xV (v:ByteArray)(b:Bool)(hb:Hid (kF zR (dG v.data.toList)=b))(hv:v.size≤1000000000):cK jR aDX v (qY v) b:=by
 intro w T;have HT:=hid T;clear T;unfold jR aDX;have c1:=aLR;have c2:=aL0;go_enter Tryz.func83,Tryz.ntmps83
 go_wp2_with fail
 have hB:Below w.heap.size w (w.alloc (.cells #[Value.string ⟨#[104,116,116,112]⟩,Value.string ⟨#[104,116,116,112,115]⟩] 9)):=(Below.refl _ w).alloc aAw _;have hS:oJ (w.alloc (.cells #[Value.string ⟨#[104,116,116,112]⟩,Value.string ⟨#[104,116,116,112,115]⟩] 9)) w.heap.size 0 zR:=by
  intro j hj;rw[Nat.zero_add,cell_of_row _ w.heap.size j _ 9 (0,0) (heap_alloc_new w _)];have:∀j<2,(#[Value.string ⟨#[104,116,116,112]⟩,Value.string ⟨#[104,116,116,112,115]⟩]:Array Value)[j]?=some (Value.string (zR.getD j ByteArray.empty)):=by
   intro j hj;match j,hj with
   | 0,_=>rfl
   | 1,_=>rfl
  exact this j hj
 refine(aBY v hv w.heap.size 0 2 2 zR rfl (by omega) _ (HT.out.below hB aAw) hS (by simp) b hb).mono ?_;rintro x W1 ⟨rfl,B1⟩;have HB1:=hid (hB.trans (B1.mono (by simp)));clear B1 hB hS;go_wp2
 go_ret2;exact⟨rfl,HB1.out⟩
theorem aLS:(⟨#[105,109,103]⟩:ByteArray)++⟨#[32]⟩=⟨#[105,109,103,32]⟩:=by decide
theorem aL1:(⟨#[105,109,103,32]⟩:ByteArray)++⟨#[97,108,116]⟩=⟨#[105,109,103,32,97,108,116]⟩:=by decide
theorem aEo (v:ByteArray)(hv:v.size≤1000000000):cK jR aDU v (cL v) true:=by
 intro w T;have HX:=hid (nR v hv w T);clear T;unfold jR aDU;have c1:=aLS;have c2:=aL1;go_enter Tryz.func83,Tryz.ntmps83
 go_wp2_with fail
 refine HX.out.mono ?_;rintro x W1 ⟨rfl,B1⟩;have HB1:=hid B1;clear B1;go_wp2
 go_ret2;exact⟨rfl,HB1.out⟩
theorem aLT:(⟨#[105,109,103]⟩:ByteArray)++⟨#[32]⟩=⟨#[105,109,103,32]⟩:=by decide
theorem aL2:(⟨#[105,109,103,32]⟩:ByteArray)++⟨#[104,101,105,103,104,116]⟩=⟨#[105,109,103,32,104,101,105,103,104,116]⟩:=by decide
theorem aBi (v:ByteArray)(x:Int)(b:Bool)(h:eY v 0 9999 x b):cK jR qC v v b:=by
 intro w T;have HX:=hid (iZ v 0 9999 x b h);clear T;unfold jR qC;have c1:=aLT;have c2:=aL2;go_enter Tryz.func83,Tryz.ntmps83
 go_wp2_with fail
 refine(HX.out _).mono ?_;rintro x W1 ⟨rfl,B1⟩;have HB1:=hid B1;clear B1;go_wp2
 go_ret2;exact⟨rfl,HB1.out⟩
theorem aLU:(⟨#[105,109,103]⟩:ByteArray)++⟨#[32]⟩=⟨#[105,109,103,32]⟩:=by decide
theorem aL3:(⟨#[105,109,103,32]⟩:ByteArray)++⟨#[119,105,100,116,104]⟩=⟨#[105,109,103,32,119,105,100,116,104]⟩:=by decide
theorem aCq (v:ByteArray)(x:Int)(b:Bool)(h:eY v 0 9999 x b):cK jR sY v v b:=by
 intro w T;have HX:=hid (iZ v 0 9999 x b h);clear T;unfold jR sY;have c1:=aLU;have c2:=aL3;go_enter Tryz.func83,Tryz.ntmps83
 go_wp2_with fail
 refine(HX.out _).mono ?_;rintro x W1 ⟨rfl,B1⟩;have HB1:=hid B1;clear B1;go_wp2
 go_ret2;exact⟨rfl,HB1.out⟩
theorem aLV:(⟨#[111,108]⟩:ByteArray)++⟨#[32]⟩=⟨#[111,108,32]⟩:=by decide
theorem aL4:(⟨#[111,108,32]⟩:ByteArray)++⟨#[115,116,97,114,116]⟩=⟨#[111,108,32,115,116,97,114,116]⟩:=by decide
theorem aDn (v:ByteArray)(x:Int)(b:Bool)(h:eY v 0 999999 x b):cK sOl sX v v b:=by
 intro w T;have HX:=hid (iZ v 0 999999 x b h);clear T;unfold sOl sX;have c1:=aLV;have c2:=aL4;go_enter Tryz.func83,Tryz.ntmps83
 go_wp2_with fail
 refine(HX.out _).mono ?_;rintro x W1 ⟨rfl,B1⟩;have HB1:=hid B1;clear B1;go_wp2
 go_ret2;exact⟨rfl,HB1.out⟩
theorem aLW:(⟨#[116,100]⟩:ByteArray)++⟨#[32]⟩=⟨#[116,100,32]⟩:=by decide
theorem aL5:(⟨#[116,100,32]⟩:ByteArray)++⟨#[99,111,108,115,112,97,110]⟩=⟨#[116,100,32,99,111,108,115,112,97,110]⟩:=by decide
theorem aBk (v:ByteArray)(x:Int)(b:Bool)(h:eY v 1 1000 x b):cK sTd kO v v b:=by
 intro w T;have HX:=hid (iZ v 1 1000 x b h);clear T;unfold sTd kO;have c1:=aLW;have c2:=aL5;go_enter Tryz.func83,Tryz.ntmps83
 go_wp2_with fail
 refine(HX.out _).mono ?_;rintro x W1 ⟨rfl,B1⟩;have HB1:=hid B1;clear B1;go_wp2
 go_ret2;exact⟨rfl,HB1.out⟩
theorem aLX:(⟨#[116,100]⟩:ByteArray)++⟨#[32]⟩=⟨#[116,100,32]⟩:=by decide
theorem aL6:(⟨#[116,100,32]⟩:ByteArray)++⟨#[114,111,119,115,112,97,110]⟩=⟨#[116,100,32,114,111,119,115,112,97,110]⟩:=by decide
theorem aBl (v:ByteArray)(x:Int)(b:Bool)(h:eY v 1 1000 x b):cK sTd kP v v b:=by
 intro w T;have HX:=hid (iZ v 1 1000 x b h);clear T;unfold sTd kP;have c1:=aLX;have c2:=aL6;go_enter Tryz.func83,Tryz.ntmps83
 go_wp2_with fail
 refine(HX.out _).mono ?_;rintro x W1 ⟨rfl,B1⟩;have HB1:=hid B1;clear B1;go_wp2
 go_ret2;exact⟨rfl,HB1.out⟩
theorem aLY:(⟨#[116,104]⟩:ByteArray)++⟨#[32]⟩=⟨#[116,104,32]⟩:=by decide
theorem aL7:(⟨#[116,104,32]⟩:ByteArray)++⟨#[99,111,108,115,112,97,110]⟩=⟨#[116,104,32,99,111,108,115,112,97,110]⟩:=by decide
theorem aBm (v:ByteArray)(x:Int)(b:Bool)(h:eY v 1 1000 x b):cK sTh kO v v b:=by
 intro w T;have HX:=hid (iZ v 1 1000 x b h);clear T;unfold sTh kO;have c1:=aLY;have c2:=aL7;go_enter Tryz.func83,Tryz.ntmps83
 go_wp2_with fail
 refine(HX.out _).mono ?_;rintro x W1 ⟨rfl,B1⟩;have HB1:=hid B1;clear B1;go_wp2
 go_ret2;exact⟨rfl,HB1.out⟩
theorem aLZ:(⟨#[116,104]⟩:ByteArray)++⟨#[32]⟩=⟨#[116,104,32]⟩:=by decide
theorem aL8:(⟨#[116,104,32]⟩:ByteArray)++⟨#[114,111,119,115,112,97,110]⟩=⟨#[116,104,32,114,111,119,115,112,97,110]⟩:=by decide
theorem aBn (v:ByteArray)(x:Int)(b:Bool)(h:eY v 1 1000 x b):cK sTh kP v v b:=by
 intro w T;have HX:=hid (iZ v 1 1000 x b h);clear T;unfold sTh kP;have c1:=aLZ;have c2:=aL8;go_enter Tryz.func83,Tryz.ntmps83
 go_wp2_with fail
 refine(HX.out _).mono ?_;rintro x W1 ⟨rfl,B1⟩;have HB1:=hid B1;clear B1;go_wp2
 go_ret2;exact⟨rfl,HB1.out⟩
theorem aKu:(⟨#[109,101,116,101,114]⟩:ByteArray)++⟨#[32]⟩=⟨#[109,101,116,101,114,32]⟩:=by decide
theorem aKB:(⟨#[109,101,116,101,114,32]⟩:ByteArray)++⟨#[109,97,120]⟩=⟨#[109,101,116,101,114,32,109,97,120]⟩:=by decide
theorem aCs (v t:ByteArray)(b:Bool)(h:∀w,aB w→Calls Tryz.prog 20 #[.string v] w fun e w'=>e=.returned (.tuple #[.string t,.bool b])∧Below w.heap.size w w'):cK jH vZ v t b:=by
 intro w T;have HX:=hid (h w T);clear T h;unfold jH vZ;have c1:=aKu;have c2:=aKB;go_enter Tryz.func83,Tryz.ntmps83
 go_wp2_with fail
 refine HX.out.mono ?_;rintro x W1 ⟨rfl,B1⟩;have HB1:=hid B1;clear B1;go_wp2
 go_ret2;exact⟨rfl,HB1.out⟩
theorem aKv:(⟨#[109,101,116,101,114]⟩:ByteArray)++⟨#[32]⟩=⟨#[109,101,116,101,114,32]⟩:=by decide
theorem aKC:(⟨#[109,101,116,101,114,32]⟩:ByteArray)++⟨#[118,97,108,117,101]⟩=⟨#[109,101,116,101,114,32,118,97,108,117,101]⟩:=by decide
theorem aAr (v t:ByteArray)(b:Bool)(h:∀w,aB w→Calls Tryz.prog 20 #[.string v] w fun e w'=>e=.returned (.tuple #[.string t,.bool b])∧Below w.heap.size w w'):cK jH oP v t b:=by
 intro w T;have HX:=hid (h w T);clear T h;unfold jH oP;have c1:=aKv;have c2:=aKC;go_enter Tryz.func83,Tryz.ntmps83
 go_wp2_with fail
 refine HX.out.mono ?_;rintro x W1 ⟨rfl,B1⟩;have HB1:=hid B1;clear B1;go_wp2
 go_ret2;exact⟨rfl,HB1.out⟩
theorem aKw:(⟨#[109,101,116,101,114]⟩:ByteArray)++⟨#[32]⟩=⟨#[109,101,116,101,114,32]⟩:=by decide
theorem aKD:(⟨#[109,101,116,101,114,32]⟩:ByteArray)++⟨#[104,105,103,104]⟩=⟨#[109,101,116,101,114,32,104,105,103,104]⟩:=by decide
theorem aBj (v t:ByteArray)(b:Bool)(h:∀w,aB w→Calls Tryz.prog 20 #[.string v] w fun e w'=>e=.returned (.tuple #[.string t,.bool b])∧Below w.heap.size w w'):cK jH aCW v t b:=by
 intro w T;have HX:=hid (h w T);clear T h;unfold jH aCW;have c1:=aKw;have c2:=aKD;go_enter Tryz.func83,Tryz.ntmps83
 go_wp2_with fail
 refine HX.out.mono ?_;rintro x W1 ⟨rfl,B1⟩;have HB1:=hid B1;clear B1;go_wp2
 go_ret2;exact⟨rfl,HB1.out⟩
theorem aKx:(⟨#[109,101,116,101,114]⟩:ByteArray)++⟨#[32]⟩=⟨#[109,101,116,101,114,32]⟩:=by decide
theorem aKE:(⟨#[109,101,116,101,114,32]⟩:ByteArray)++⟨#[108,111,119]⟩=⟨#[109,101,116,101,114,32,108,111,119]⟩:=by decide
theorem aCr (v t:ByteArray)(b:Bool)(h:∀w,aB w→Calls Tryz.prog 20 #[.string v] w fun e w'=>e=.returned (.tuple #[.string t,.bool b])∧Below w.heap.size w w'):cK jH aFP v t b:=by
 intro w T;have HX:=hid (h w T);clear T h;unfold jH aFP;have c1:=aKx;have c2:=aKE;go_enter Tryz.func83,Tryz.ntmps83
 go_wp2_with fail
 refine HX.out.mono ?_;rintro x W1 ⟨rfl,B1⟩;have HB1:=hid B1;clear B1;go_wp2
 go_ret2;exact⟨rfl,HB1.out⟩
theorem aKy:(⟨#[109,101,116,101,114]⟩:ByteArray)++⟨#[32]⟩=⟨#[109,101,116,101,114,32]⟩:=by decide
theorem aKF:(⟨#[109,101,116,101,114,32]⟩:ByteArray)++⟨#[109,105,110]⟩=⟨#[109,101,116,101,114,32,109,105,110]⟩:=by decide
theorem aCt (v t:ByteArray)(b:Bool)(h:∀w,aB w→Calls Tryz.prog 20 #[.string v] w fun e w'=>e=.returned (.tuple #[.string t,.bool b])∧Below w.heap.size w w'):cK jH aFR v t b:=by
 intro w T;have HX:=hid (h w T);clear T h;unfold jH aFR;have c1:=aKy;have c2:=aKF;go_enter Tryz.func83,Tryz.ntmps83
 go_wp2_with fail
 refine HX.out.mono ?_;rintro x W1 ⟨rfl,B1⟩;have HB1:=hid B1;clear B1;go_wp2
 go_ret2;exact⟨rfl,HB1.out⟩
theorem aKz:(⟨#[112,114,111,103,114,101,115,115]⟩:ByteArray)++⟨#[32]⟩=⟨#[112,114,111,103,114,101,115,115,32]⟩:=by decide
theorem aKG:(⟨#[112,114,111,103,114,101,115,115,32]⟩:ByteArray)++⟨#[109,97,120]⟩=⟨#[112,114,111,103,114,101,115,115,32,109,97,120]⟩:=by decide
theorem yZ (v t:ByteArray)(b:Bool)(h:∀w,aB w→Calls Tryz.prog 20 #[.string v] w fun e w'=>e=.returned (.tuple #[.string t,.bool b])∧Below w.heap.size w w'):cK mI vZ v t b:=by
 intro w T;have HX:=hid (h w T);clear T h;unfold mI vZ;have c1:=aKz;have c2:=aKG;go_enter Tryz.func83,Tryz.ntmps83
 go_wp2_with fail
 refine HX.out.mono ?_;rintro x W1 ⟨rfl,B1⟩;have HB1:=hid B1;clear B1;go_wp2
 go_ret2;exact⟨rfl,HB1.out⟩
theorem aKA:(⟨#[112,114,111,103,114,101,115,115]⟩:ByteArray)++⟨#[32]⟩=⟨#[112,114,111,103,114,101,115,115,32]⟩:=by decide
theorem aKH:(⟨#[112,114,111,103,114,101,115,115,32]⟩:ByteArray)++⟨#[118,97,108,117,101]⟩=⟨#[112,114,111,103,114,101,115,115,32,118,97,108,117,101]⟩:=by decide
theorem vG (v t:ByteArray)(b:Bool)(h:∀w,aB w→Calls Tryz.prog 20 #[.string v] w fun e w'=>e=.returned (.tuple #[.string t,.bool b])∧Below w.heap.size w w'):cK mI oP v t b:=by
 intro w T;have HX:=hid (h w T);clear T h;unfold mI oP;have c1:=aKA;have c2:=aKH;go_enter Tryz.func83,Tryz.ntmps83
 go_wp2_with fail
 refine HX.out.mono ?_;rintro x W1 ⟨rfl,B1⟩;have HB1:=hid B1;clear B1;go_wp2
 go_ret2;exact⟨rfl,HB1.out⟩
def aBh:List (List UInt8 × List UInt8):=[([97],[104,114,101,102]),([105,109,103],[115,114,99]),([105,109,103],[97,108,116]),([105,109,103],[104,101,105,103,104,116]),([105,109,103],[119,105,100,116,104]),([111,108],[115,116,97,114,116]),([116,100],[99,111,108,115,112,97,110]),([116,100],[114,111,119,115,112,97,110]),([116,104],[99,111,108,115,112,97,110]),([116,104],[114,111,119,115,112,97,110]),([109,101,116,101,114],[109,97,120]),([109,101,116,101,114],[118,97,108,117,101]),([109,101,116,101,114],[104,105,103,104]),([109,101,116,101,114],[108,111,119]),([109,101,116,101,114],[109,105,110]),([112,114,111,103,114,101,115,115],[109,97,120]),([112,114,111,103,114,101,115,115],[118,97,108,117,101])]
def yY:List (List UInt8):=[[97,32,104,114,101,102],[105,109,103,32,115,114,99],[105,109,103,32,97,108,116],[105,109,103,32,104,101,105,103,104,116],[105,109,103,32,119,105,100,116,104],[111,108,32,115,116,97,114,116],[116,100,32,99,111,108,115,112,97,110],[116,100,32,114,111,119,115,112,97,110],[116,104,32,99,111,108,115,112,97,110],[116,104,32,114,111,119,115,112,97,110],[109,101,116,101,114,32,109,97,120],[109,101,116,101,114,32,118,97,108,117,101],[109,101,116,101,114,32,104,105,103,104],[109,101,116,101,114,32,108,111,119],[109,101,116,101,114,32,109,105,110],[112,114,111,103,114,101,115,115,32,109,97,120],[112,114,111,103,114,101,115,115,32,118,97,108,117,101]]
theorem aEC {P:Program}{fn:Func}{s t:Nat}{tmps:Array Value}{u v:Value}(w:World)(h:fn.results=#[.tmp s,.tmp t])(hu:tmps.getD s undef=u)(hv:tmps.getD t undef=v):(results fn tmps).run P w=.ok (.tuple #[u,v]) w:=by
 unfold results;rw[h];rw[Array.getD_eq_getD_getElem?]at hu hv
 simp[hu,hv]
theorem aGz {P:Program}{Q:Exit→Act→World→Prop}{w:World}{s:ByteArray}{k n:Nat}{B C:TypeId}{t1 t2:Nat}{v1 v2:Value}{rid:Nat}{p1 p2:String}{f1 f2:Array Edge}{a:Act}(hC:gL s k n a)(ht:(t1 !=k&&t2 !=k&&t1 !=t2&&decide (t1<n)&&decide (t2<n))=true)
  (h:∀a',gL s k n a'→a'.eval (.tmp t1)=v1→a'.eval (.tmp t2)=v2→Q .normal a' w) :
  (Code.region rid #[{ dst:=some t1,op:=Op.assign (Operand.const v1),type:=B,pos:=p1,after:=f1,guard:=none },{ dst:=some t2,op:=Op.assign (Operand.const v2),type:=C,pos:=p2,after:=f2,guard:=none }] false).wp P Q a w:=by
 simp only[Bool.and_eq_true,bne_iff_ne,ne_eq,decide_eq_true_eq]at ht;have h1:=hC.put t1 v1 ht.1.1.1.1;have e1:=qK (a:=a) (t:=t1) (v:=v1) (by rw[hC.size];exact ht.1.2);have h2:=h1.put t2 v2 ht.1.1.1.2;have e2:=qK (a:=a.put (some t1) v1) (t:=t2) (v:=v2) (by rw[h1.size];exact ht.2);have e3:((a.put (some t1) v1).put (some t2) v2).eval (.tmp t1)=v1:=by
  rw[←e1];simp[Act.eval,Act.put,Array.getD_eq_getD_getElem?,Ne.symm ht.1.1.2];intro x y;omega
 have ec:a.eval (.const v1)=v1:=rfl;have ec2:(a.put (some t1) v1).eval (.const v2)=v2:=rfl;refine wp_region_lit (l:=[_,_]) ?_;refine wpList_plain rfl fun K hK=>?_
 have hx:=hK _ _ (wpList_plain (P:=P) (w:=w) (rest:=[]) (o:={ dst:=some t2,op:=Op.assign (Operand.const v2),type:=C,pos:=p2,after:=f2,guard:=none }) (a:=a.put (some t1) v1) rfl fun K2 hK2=>by
  have:=hK2 _ _ (wpList_nil (h _ h2 e3 e2));unfold Oper.wp;simp[execOp,ec2,Oper.upon];exact this)
 unfold Oper.wp;simp[execOp,ec,Oper.upon];exact hx
theorem aGZ (e n v:ByteArray)(he:e.size≤1000000000)(hn:n.size≤1000000000)(K:ByteArray)(hK:Hid (K=e++⟨#[32]⟩++n))(h1:(n.toList==[116,105,116,108,101])=false)(h2:(n.toList==[108,97,110,103])=false)(h3:(n.toList==[100,105,114])=false)
  (hN:Hid (∀l:List UInt8,yY.contains l=true→(K.toList==(⟨l.toArray⟩:ByteArray).toList)=false)):cK e n v ⟨#[]⟩ false:=by
 intro w T;clear T;have ek:e++⟨#[32]⟩++n=K:=hK.out.symm;go_enter Tryz.func83,Tryz.ntmps83
 go_upto_region 15 with fail
 rename_i _ k1 a1 k0 a0;refine yN 9 K _ 37 90 (hN.out _ (by decide +kernel)) ⟨rfl,rfl,rfl⟩ rfl ?_;intro a hC hb;repeat' (first
  | (refine yN 9 K _ 37 90 (hN.out _ (by decide +kernel)) hC rfl ?_;clear hC;intro a hC hb)
  | (with_reducible refine lP ?_)
  | (with_reducible refine vA ?_)
  | (with_reducible refine wp_cond_false hb ?_)
  | (with_reducible refine wp_seq ?_)
  | (with_reducible refine wp_skip ?_)
  | (with_reducible refine a0 _ _ ?_)
  | (with_reducible refine a1 _ _ ?_))
 refine aGz hC rfl ?_;clear hC hb;intro a hC h6 h7;refine lP (wp_ret ?_);exact⟨hC.defers,_,aEC w rfl h6 h7,rfl,Below.refl _ _⟩
open Go.RowKit
def aMO:List ByteArray:=[aAM,aDV,aDW]
structure zT (sm:ByteArray) (B k:Nat) (w wx:World):Prop where
 le:k≤3
 no1:1≤k→sm≠aAM
 no2:2≤k→sm≠aDV
 no3:3≤k→sm≠aDW
 str:oJ wx B 0 aMO
 bel:Below B w wx
 lt:B<wx.heap.size
structure aLM (sm t:ByteArray) (b:Bool):Prop where
 yes:yQ sm→sm=t∧true=b
 no:¬yQ sm→t=⟨#[]⟩∧b=false
theorem pZ {sm c:ByteArray}(l:List UInt8)(h:sm≠c)(hl:c.data.toList=l):(sm.toList==l)=false:=by
 rw[beq_eq_false_iff_ne,toList_data,←hl];exact fun e=>h (gU e)
theorem qI {sm c:ByteArray}(h:sm≠c):¬sm.toList=c.toList:=fun e=>h (gU (by rw[toList_data,toList_data]at e;exact e))
theorem aDl (e v t:ByteArray)(b:Bool)(hv:v.size≤140737488355328)(hE:Hid (aLM (mJ v) t b)):cK e aBx v t b:=by
 intro w T;have S:=fun W=>aCb v hv W
 rw[show(⟨(cZ v.data.toList).toArray⟩:ByteArray)=mJ v from rfl]at S
 generalize mJ v=sm at *
 have HS:=hid S;clear S T;unfold aBx;go_enter Tryz.func83,Tryz.ntmps83
 go_upto_region 8 with fail
 have H0:Hid (zT sm w.heap.size 0 w (w.alloc (.cells #[Value.string ⟨#[97,117,116,111]⟩,Value.string ⟨#[108,116,114]⟩,Value.string ⟨#[114,116,108]⟩] 9))):=by
  refine⟨by omega,by omega,by omega,by omega,?_,(Below.refl _ w).alloc aAw _,by simp⟩;intro j hj;rw[Nat.zero_add,cell_of_row _ w.heap.size j _ 9 (0,0) (heap_alloc_new w _)];have:∀j<3,(#[Value.string ⟨#[97,117,116,111]⟩,Value.string ⟨#[108,116,114]⟩,Value.string ⟨#[114,116,108]⟩]:Array Value)[j]?=some (Value.string (aMO.getD j ByteArray.empty)):=by
   intro j hj;match j,hj with
   | 0,_=>rfl
   | 1,_=>rfl
   | 2,_=>rfl
  exact this j hj
 go_loopw [6,7,24] (fun r6 r7 i wx=>r6=.string ⟨#[]⟩∧r7=.bool false∧∃k:Nat,i=.int .i64 k∧Hid (zT sm w.heap.size k w wx)) (fun _ _ i _=>3-(intOf i).toNat)
 case atStart=>exact⟨rfl,rfl,0,rfl,H0⟩
 case round =>
  obtain⟨rfl,rfl,k,rfl,hD⟩:=hrel;have hk:=hD.out.le;have hcases:k=0∨k=1∨k=2∨k=3:=by omega
  rcases hcases with rfl|rfl|rfl|rfl
  ·have hcell:wr.cell? ⟨w.heap.size,0,none⟩=some (.string ⟨#[97,117,116,111]⟩):=hD.out.str 0 (by decide);by_cases hs:sm=aAM
   ·obtain⟨rfl,rfl⟩:=hE.out.yes (.inl hs);subst hs;unfold aAM at *
    go_wp2_with fail
    refine(HS.out _).mono ?_;rintro x w1 ⟨rfl,B1⟩;have HB:=hid (hD.out.bel.trans (B1.mono (Nat.le_of_lt hD.out.lt)));clear B1;go_wp2
    go_ret2;exact⟨rfl,HB.out⟩
   ·have hn:=pZ [97,117,116,111] hs rfl;have HH:=hid hs;clear hs;go_wp2_with fail
    refine(HS.out _).mono ?_;rintro x w1 ⟨rfl,B1⟩;have HN:Hid (zT sm w.heap.size 1 w w1):=⟨by omega,fun _=>HH.out,by omega,by omega,hD.out.str.below B1 hD.out.lt,hD.out.bel.trans (B1.mono (Nat.le_of_lt hD.out.lt)),Nat.lt_of_lt_of_le hD.out.lt B1.size⟩
    clear B1;go_wp2
    go_roundw
    case rel=>exact⟨rfl,rfl,1,by go_num,HN⟩
    case measure=>simp[intOf]
  ·have hcell:wr.cell? ⟨w.heap.size,1,none⟩=some (.string ⟨#[108,116,114]⟩):=hD.out.str 1 (by decide);by_cases hs:sm=aDV
   ·obtain⟨rfl,rfl⟩:=hE.out.yes (.inr (.inl hs));subst hs;unfold aDV at *
    go_wp2_with fail
    refine(HS.out _).mono ?_;rintro x w1 ⟨rfl,B1⟩;have HB:=hid (hD.out.bel.trans (B1.mono (Nat.le_of_lt hD.out.lt)));clear B1;go_wp2
    go_ret2;exact⟨rfl,HB.out⟩
   ·have hn:=pZ [108,116,114] hs rfl;have HH:=hid hs;clear hs;go_wp2_with fail
    refine(HS.out _).mono ?_;rintro x w1 ⟨rfl,B1⟩;have HN:Hid (zT sm w.heap.size 2 w w1):=⟨by omega,fun _=>hD.out.no1 (by omega),fun _=>HH.out,by omega,hD.out.str.below B1 hD.out.lt,hD.out.bel.trans (B1.mono (Nat.le_of_lt hD.out.lt)),Nat.lt_of_lt_of_le hD.out.lt B1.size⟩
    clear B1;go_wp2
    go_roundw
    case rel=>exact⟨rfl,rfl,2,by go_num,HN⟩
    case measure=>simp[intOf]
  ·have hcell:wr.cell? ⟨w.heap.size,2,none⟩=some (.string ⟨#[114,116,108]⟩):=hD.out.str 2 (by decide);by_cases hs:sm=aDW
   ·obtain⟨rfl,rfl⟩:=hE.out.yes (.inr (.inr hs));subst hs;unfold aDW at *
    go_wp2_with fail
    refine(HS.out _).mono ?_;rintro x w1 ⟨rfl,B1⟩;have HB:=hid (hD.out.bel.trans (B1.mono (Nat.le_of_lt hD.out.lt)));clear B1;go_wp2
    go_ret2;exact⟨rfl,HB.out⟩
   ·have hn:=pZ [114,116,108] hs rfl;have HH:=hid hs;clear hs;go_wp2_with fail
    refine(HS.out _).mono ?_;rintro x w1 ⟨rfl,B1⟩;have HN:Hid (zT sm w.heap.size 3 w w1):=⟨by omega,fun _=>hD.out.no1 (by omega),fun _=>hD.out.no2 (by omega),fun _=>HH.out,hD.out.str.below B1 hD.out.lt,hD.out.bel.trans (B1.mono (Nat.le_of_lt hD.out.lt)),Nat.lt_of_lt_of_le hD.out.lt B1.size⟩
    clear B1;go_wp2
    go_roundw
    case rel=>exact⟨rfl,rfl,3,by go_num,HN⟩
    case measure=>simp[intOf]
  ·obtain⟨rfl,rfl⟩:=hE.out.no (fun hp=>by
    rcases hp with h|h|h
    ·exact hD.out.no1 (by omega) h
    ·exact hD.out.no2 (by omega) h
    ·exact hD.out.no3 (by omega) h)
   go_wp2
   go_ret2;exact⟨rfl,hD.out.bel⟩
