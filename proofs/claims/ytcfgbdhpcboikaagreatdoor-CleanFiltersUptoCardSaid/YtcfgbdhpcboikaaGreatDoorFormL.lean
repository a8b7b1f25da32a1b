/-
policy.form as a plain function: which form a value has, by its element and its attribute.
-/
import Derived.Test.YtcfgbdhpcboikaaGreatDoorAtofC
import Derived.Test.YtcfgbdhpcboikaaGreatDoorDecV
namespace Go.Proofs.YtcfgbdhpcboikaaGreatDoor
set_option maxHeartbeats 4000000
set_option maxRecDepth 100000
open Go.RowKit
theorem aBZ {n:Nat}:n<=n:=ah n
def pW:I:=⟨#[108,97,110,103]⟩
def wO:I:=⟨#[100,105,114]⟩
def zE:I:=⟨#[115,114,99]⟩
def fA:I:=⟨#[105,109,103]⟩
def yZ:I:=⟨#[97,108,116]⟩
def mF:I:=⟨#[104,101,105,103,104,116]⟩
def oT:I:=⟨#[119,105,100,116,104]⟩
def sOl:I:=⟨#[111,108]⟩
def oS:I:=⟨#[115,116,97,114,116]⟩
def sTd:I:=⟨#[116,100]⟩
def sTh:I:=⟨#[116,104]⟩
def gT:I:=⟨#[99,111,108,115,112,97,110]⟩
def gU:I:=⟨#[114,111,119,115,112,97,110]⟩
def dM:I:=⟨#[109,101,116,101,114]⟩
def fO:I:=⟨#[112,114,111,103,114,101,115,115]⟩
def sX:I:=⟨#[109,97,120]⟩
def lR:I:=⟨#[118,97,108,117,101]⟩
def wP:I:=⟨#[104,105,103,104]⟩
def aBd:I:=⟨#[108,111,119]⟩
def aBe:I:=⟨#[109,105,110]⟩
def tU:I:=⟨#[97,117,116,111]⟩
def zB:I:=⟨#[108,116,114]⟩
def zD:I:=⟨#[114,116,108]⟩
def aRG:I:=⟨#[104,116,116,112]⟩
def aQO:I:=⟨#[104,116,116,112,115]⟩
inductive FK where
 | text|lang|dir|linkA|linkI|whole (lo hi:Nat)|fix|none
deriving DecidableEq
def fQ (e n:I):Bool:=(decide (e=dM)&&(decide (n=sX)||decide (n=lR)||decide (n=wP)||decide (n=aBd)||decide (n=aBe)))||(decide (e=fO)&&(decide (n=sX)||decide (n=lR)))
def aZ (e n:I):FK :=
 if n=lQ then .text else if n=pW then .lang else if n=wO then .dir
 else if e=sA/\n=tV then .linkA
 else if e=fA/\n=zE then .linkI
 else if e=fA/\n=yZ then .text
 else if e=fA/\(n=mF\/n=oT)then .whole 0 9999
 else if e=sOl/\n=oS then .whole 0 999999
 else if (e=sTd\/e=sTh)/\(n=gT\/n=gU)then .whole 1 1000
 else if fQ e n=true then .fix
 else .none
def uW (c:UInt8):Bool:=(decide (97<=c.toNat)&&decide (c.toNat<=122))||(decide (65<=c.toNat)&&decide (c.toNat<=90))
def pP (c:UInt8)(i:Nat):Bool:=uW c||(decide (0<i)&&(decide (c.toNat=45)||(decide (48<=c.toNat)&&decide (c.toNat<=57))))
def aAe (l:U):Prop:=∀j (h:j<l.length),pP l[j] j=true
def nA (v:I):Prop:=aAe v.data.toList/\1<=v.size/\v.size<=16
def aAU (v:I):Prop:=v=tU\/v=zB\/v=zD
def aQY (lo hi:Nat)(v:I):Prop:=∃x,eQ v lo hi x true
def cY (v:I):I:=⟨(bO v.data.toList).toArray⟩
def uQ:List I:=[aRG,aQO]
structure aHs (v t:I):Prop where
 sz:t.size<=25
 num:cH t.data.toList=true
 yes:∀w,aA w->Y 20 #[.string v] w (O (.tuple #[.string t,.bool true]) w)
 again:∀w,aA w->Y 20 #[.string t] w (O (.tuple #[.string t,.bool true]) w)
def aHt (v:I):Prop:=∀w,aA w->Y 20 #[.string v] w (O (.tuple #[.string ⟨#[]⟩,.bool false]) w)
def qS (k:FK)(v:I):Option I->Prop
 | some t=>match k with
  | .text=>t=dK v
  | .lang=>nA v/\t=v
  | .dir=>aAU (cY v)/\t=cY v
  | .linkA=>eY pZ (bN v.data.toList)=true/\t=iO v
  | .linkI=>eY uQ (bN v.data.toList)=true/\t=iO v
  | .whole lo hi=>aQY lo hi v/\t=v
  | .fix=>aHs v t
  | .none=>False
 | none=>match k with
  | .text=>False
  | .lang=>¬nA v
  | .dir=>¬aAU (cY v)
  | .linkA=>eY pZ (bN v.data.toList)=false
  | .linkI=>eY uQ (bN v.data.toList)=false
  | .whole lo hi=>∃x,eQ v lo hi x false
  | .fix=>aHt v
  | .none=>True
def iM (e n v:I)(o:Option I):Prop :=
 match o with
 | some t=>¬(aN e.data.toList<2\/aN e.data.toList=14)/\qS (aZ e n) v (some t)/\(gP t).size<=120
 | none=>(aN e.data.toList<2\/aN e.data.toList=14)\/qS (aZ e n) v none\/∃t,qS (aZ e n) v (some t)/\120<(gP t).size
theorem aJi {v:I}(h:aAU v):cY v=v:=by
 rcases h with rfl|rfl|rfl<;>exact fF (by decide)
theorem aHS {k:FK}{v t:I}(h:qS k v (some t)):qS k t (some t):=by
 cases k with|text=>{subst h;exact(aIx v).symm}|lang=>{obtain⟨a,rfl⟩:=h;exact⟨a,rfl⟩}|dir=>{obtain⟨a,b⟩:=h;rw[<-b]at a;have e:=aJi a;exact⟨by rw[e];exact a,e.symm⟩}|linkA=>{obtain⟨a,rfl⟩:=h;exact⟨by rw[rC,yH];exact a,(aBW v).symm⟩}|linkI=>{obtain⟨a,rfl⟩:=h;exact⟨by rw[rC,yH];exact a,(aBW v).symm⟩}|whole lo hi=>{obtain⟨a,rfl⟩:=h;exact⟨a,rfl⟩}|fix=>exact⟨h.sz,h.num,h.again,h.again⟩|none=>exact h
theorem aGQ {e n v t:I}(h:iM e n v (some t)):iM e n t (some t):=⟨h.1,aHS h.2.1,h.2.2⟩
open Go.RowKit
def uS (l:U)(k:Nat):Prop:=k<=l.length/\∀j (h:j<l.length),j<k->pP l[j] j=true
theorem uS.step {l:U}{k:Nat}(h:uS l k)(d:k<l.length)(b:pP l[k] k=true):uS l (k+1) :=
 ⟨d,fun j c e=>by
  rcases ak j k with a|a
  ·exact h.2 j c a
  ·obtain rfl:j=k:=by omega
   exact b⟩
theorem aMc {l:U}{k:Nat}(b:k<l.length)(a:pP l[k] k=false):¬aAe l:=fun h=>by
 have:=h k b;rw[a]at this
 cases this
theorem aFe (c:UInt8)(d k:Nat)(h:c.toNat=d):pP c k=(((decide (97<=d)&&decide (d<=122))||(decide (65<=d)&&decide (d<=90)))||(decide (0<k)&&(decide (d=45)||(decide (48<=d)&&decide (d<=57))))):=by
 unfold pP uW;rw[h]
structure aAN (v:I) (k d:Nat):Prop where
 yes:(((decide (97<=d)&&decide (d<=122))||(decide (65<=d)&&decide (d<=90)))||(decide (0<k)&&(decide (d=45)||(decide (48<=d)&&decide (d<=57)))))=true->uS v.data.toList (k+1)
 no:(((decide (97<=d)&&decide (d<=122))||(decide (65<=d)&&decide (d<=90)))||(decide (0<k)&&(decide (d=45)||(decide (48<=d)&&decide (d<=57)))))=false->¬nA v
theorem aAN.of (v:I)(k d:Nat)(a:k<v.data.toList.length)(h:uS v.data.toList k)(hd:v.data.toList[k].toNat=d):aAN v k d :=
 ⟨fun c=>by rw[<-aFe _ d k hd]at c;exact h.step a c,fun b e=>by rw[<-aFe _ d k hd]at b;exact aMc a b e.1⟩
theorem aMb (v:I)(X:v.size<=140737488355328)(b:Bool)(u:G (b=true↔nA v))(w:H):Y 142 #[.string v] w (O (.bool b) w):=by
 obtain⟨cap,W,L,x,y,E,M⟩:=qX v w;have f:=Z x;have C:G (bV W w.heap.size 0 v.data.toList):=y;have l:G (¬nA v->b=false):=fun h=>by{cases b with|false=>rfl|true=>exact absurd (u.o.1 rfl) h};clear x y E M;go_enter Tryz.func142,Tryz.ntmps142;go_wp2;clear L;go_loop [2,9] (fun r i=>r=.bool false/\∃k:Nat,i=.int .i64 k/\G (uS v.data.toList k)) (fun _ i=>v.size-(intOf i).toNat);case atStart=>exact⟨rfl,0,rfl,Z ⟨bb _,fun j z D=>absurd D (by omega)⟩⟩
 case round =>
  obtain⟨rfl,k,rfl,s⟩:=hrel;rcases ak k v.size with m|V
  ·have J:=C.o k m;obtain⟨d,hd⟩:∃d,(v.data.toList[k]'m).toNat=d:=⟨_,rfl⟩;have g:=Z (aAN.of v k d m s.o hd);have T:d<256:=by{rw[<-hd];exact(v.data.toList[k]'m).toNat_lt};rw[hd,bw]at J;clear hd;have F:(97<=d/\d<=122)\/(65<=d/\d<=90)\/d=45\/(48<=d/\d<=57)\/(d<45\/(45<d/\d<48)\/(57<d/\d<65)\/(90<d/\d<97)\/122<d):=by{omega};rcases F with⟨h,c⟩|⟨h,c⟩|rfl|⟨h,c⟩|h;{have a:=Z (g.o.yes (by simp;omega));have n:decide ((d:Int)<=122)=true:=by{simp;omega};go_wp2;go_round;(case rel=>exact⟨rfl,k+1,by go_num,a⟩);case measure=>simp[intOf];omega};{have a:=Z (g.o.yes (by simp;omega));have n:decide ((d:Int)<=90)=true:=by{simp;omega};go_wp2;go_round;(case rel=>exact⟨rfl,k+1,by go_num,a⟩);case measure=>simp[intOf];omega};{rcases gp k with e|e;{subst e;have a:=Z (l.o (g.o.no (by simp)));go_wp2;go_ret;exact⟨by rw[a.o];rfl,f.o⟩};{have a:=Z (g.o.yes (by simp;omega));have A:((k:Int)==0)=false:=by{rw[ai];omega};go_wp2;go_round;(case rel=>exact⟨rfl,k+1,by go_num,a⟩);case measure=>simp[intOf];omega}};{have R:((d:Int)==45)=false:=by{rw[ai];omega};have S:((d:Int) !=45)=true:=by{rw[ct];omega};have n:decide ((d:Int)<=57)=true:=by{simp;omega};rcases gp k with e|e;{subst e;have a:=Z (l.o (g.o.no (by simp;omega)));go_wp2;go_ret;exact⟨by rw[a.o];rfl,f.o⟩};{have a:=Z (g.o.yes (by simp;omega));have A:((k:Int)==0)=false:=by{rw[ai];omega};go_wp2;go_round;(case rel=>exact⟨rfl,k+1,by go_num,a⟩);case measure=>simp[intOf];omega}}
   ·have R:((d:Int)==45)=false:=by{rw[ai];omega};have S:((d:Int) !=45)=true:=by{rw[ct];omega};have a:=Z (l.o (g.o.no (by simp;omega)));rcases gp k with e|e
    ·subst e;rcases h with h|⟨h,c⟩|⟨h,c⟩|⟨h,c⟩|h
     all_goals
      try have n:decide ((d:Int)<=122)=false:=by simp;omega
      try have P:decide ((d:Int)<=90)=false:=by simp;omega
      try have Q:decide ((d:Int)<=57)=false:=by simp;omega
      go_wp2
      go_ret;exact⟨by rw[a.o];rfl,f.o⟩
    ·have A:((k:Int)==0)=false:=by{rw[ai];omega};rcases h with h|⟨h,c⟩|⟨h,c⟩|⟨h,c⟩|h
     all_goals
      try have n:decide ((d:Int)<=122)=false:=by simp;omega
      try have P:decide ((d:Int)<=90)=false:=by simp;omega
      try have Q:decide ((d:Int)<=57)=false:=by simp;omega
      go_wp2
      go_ret;exact⟨by rw[a.o];rfl,f.o⟩
  {have t:aAe v.data.toList:=fun j z=>s.o.2 j z (by have:v.data.toList.length=v.size:=rfl;omega);have B:G (1<=v.size/\v.size<=16->b=true):=fun h=>u.o.2 ⟨t,h.1,h.2⟩;have p:G (¬(1<=v.size/\v.size<=16)->b=false):=fun h=>l.o fun K=>h K.2;clear t;rcases ak v.size 1 with q|q;{have a:=Z (p.o (by omega));go_wp2;go_ret;exact⟨by rw[a.o];rfl,f.o⟩};{rcases ak 16 v.size with c|c;{have a:=Z (p.o (by omega));have N:decide ((v.size:Int)<=16)=false:=by{simp;omega};go_wp2;go_ret;exact⟨by rw[a.o];rfl,f.o⟩};{have a:=Z (B.o ⟨q,c⟩);have N:decide ((v.size:Int)<=16)=true:=by{simp;omega};go_wp2;go_ret;exact⟨by rw[a.o];rfl,f.o⟩}}}
open Go.RowKit
theorem aEG (s:I)(t:cH s.data.toList=true):aHr s:=by
 obtain⟨neg,a,q,ev,d,j,N,g,n⟩:=aHZ s t;have c:=N.lt;have p:=N.le;have i:=wJ s a q N q (b6 c) aBZ;have y:=lG s a q (b6 c) p;have l:xQ s (aO (aM s a q)).mant ((aO (aM s a q)).expo ev) neg (aO (aM s a q)).trunc:=fun w=>aBa s neg a q w d j N ev g
 have f:=aCd s a q N q (b6 c) aBZ;have b:=aFZ neg (aM s a q) (by omega) i;have o:=aDy (aM s a q) i;have m:∀w B,aC w B aCJ->Y 240 #[.pointer (some ⟨B,0,none⟩),.string s] w fun e w'=>e=.returned (.bool true)/\aC w' B (aFQ neg (aM s a q) ev)/\aD (· = B) w w' :=
  fun w B h=>aO5 B s neg a q w h d j N ev g
 have x:=f.mant;have u:=aNs (aO (aM s a q)).ndM (by have:=f.ndM;omega);refine aLn s _ _ neg _ d n l (by omega) (aFQ neg (aM s a q) ev) ⟨b.len,?_,b.dig,b.head⟩ b.neg ?_ m;{have:=b.le;show(jC neg (aM s a q)).nd<=800;omega};{intro r k;have v:20<=(aO (aM s a q)).nd:=by{refine ff fun h=>?_;rw[o (by omega)]at k;cases k};refine⟨?_,?_⟩;{show 1<=(jC neg (aM s a q)).nd;have:=b.nd;omega};{unfold RS.expo;rw[ae r];have:=f.ndM;show(aO (aM s a q)).place+ev-_+19=(aO (aM s a q)).place+ev;omega}}
open Go.RowKit
theorem aG3 (c:H)(d:aA c)(v:I)(k:v.size<=maxLen):(∃t,aHs v t)\/aHt v:=by
 rcases aJ8 aEG v k with⟨neg,b,i,j⟩|h;{obtain⟨t,a⟩:=aHh neg b i;refine .inl ⟨t,a.sz,?_,fun w T=>aHO v _ t w T j a.pr,a.fx⟩;cases hn:cH t.data.toList with|true=>rfl|false=>{have e:=fun w (_:aA w)=>aA9 t w (by have:=a.sz;unfold maxLen;omega) hn;have f:=aBM t c d (fun w T=>dQ (e w T));have g:=a.fx c d;have:=tF (by kernel_rfl) g f;simp at this}};{exact .inr fun w T=>aBM v w T h}
open Go.RowKit
theorem kD (v:I)(lo hi:Nat)(n:Int)(b:Bool)(h:eQ v lo hi n b)(w:H):Y 144 #[.string v,.int .i64 lo,.int .i64 hi] w (O (.tuple #[.string v,.bool b]) w):=by
 have c:=Z h.one;clear h;go_enter Tryz.func144,Tryz.ntmps144;go_wp2_with fail;refine(c.o _).mono ?_;rintro e f ⟨rfl,a⟩;have d:=Z a;clear a;go_wp2;go_ret2;exact⟨rfl,d.o⟩
theorem aDn (e v:I)(g:v.size<=140737488355328)(b:Bool)(f:G (b=true↔nA v)):cI e pW v v b:=by
 intro w T;have d:=Z (aMb v g b f);clear T;unfold pW;go_enter Tryz.func83,Tryz.ntmps83;go_wp2_with fail;refine(d.o _).mono ?_;rintro x h ⟨rfl,a⟩;have c:=Z a;clear a;go_wp2;go_ret2;exact⟨rfl,c.o⟩
theorem aPE:(⟨#[105,109,103]⟩:I)++⟨#[32]⟩=⟨#[105,109,103,32]⟩:=by decide
theorem aPN:(⟨#[105,109,103,32]⟩:I)++⟨#[115,114,99]⟩=⟨#[105,109,103,32,115,114,99]⟩:=by decide
theorem aAy (v:I)(b:Bool)(h:G (eY uQ (bN v.data.toList)=b))(i:v.size<=1000000000):cI fA zE v (iO v) b:=by
 intro w T;have g:=Z T;clear T;unfold fA zE;have l:=aPE;have m:=aPN;go_enter Tryz.func83,Tryz.ntmps83;go_wp2_with fail
 have a:Below w.heap.size w (w.alloc (.cells #[Value.string ⟨#[104,116,116,112]⟩,Value.string ⟨#[104,116,116,112,115]⟩] 9)):=(am _ w).alloc aBZ _;have e:qD (w.alloc (.cells #[Value.string ⟨#[104,116,116,112]⟩,Value.string ⟨#[104,116,116,112,115]⟩] 9)) w.heap.size 0 uQ:=by
  intro j c;rw[bw,au _ w.heap.size j _ 9 (0,0) (cc w _)];have:∀j<2,(#[Value.string ⟨#[104,116,116,112]⟩,Value.string ⟨#[104,116,116,112,115]⟩]:Array Value)[j]?=some (Value.string (uQ.getD j ByteArray.empty)):=by
   intro j c;match j,c with
   | 0,_=>rfl
   | 1,_=>rfl
  exact this j c
 refine(aDr v i w.heap.size 0 2 2 uQ rfl (by omega) _ (g.o.below a aBZ) e (by simp) b h).mono ?_;rintro x k ⟨rfl,d⟩;have f:=Z (a.trans (d.mono (by simp)));clear d a e;go_wp2;go_ret2;exact⟨rfl,f.o⟩
theorem aPF:(⟨#[105,109,103]⟩:I)++⟨#[32]⟩=⟨#[105,109,103,32]⟩:=by decide
theorem aPO:(⟨#[105,109,103,32]⟩:I)++⟨#[97,108,116]⟩=⟨#[105,109,103,32,97,108,116]⟩:=by decide
theorem aGk (v:I)(d:v.size<=1000000000):cI fA yZ v (dK v) true:=by
 intro w T;have c:=Z (wS v d w T);clear T;unfold fA yZ;have f:=aPF;have g:=aPO;go_enter Tryz.func83,Tryz.ntmps83;go_wp2_with fail;refine c.o.mono ?_;rintro x e ⟨rfl,a⟩;have b:=Z a;clear a;go_wp2;go_ret2;exact⟨rfl,b.o⟩
theorem aPG:(⟨#[105,109,103]⟩:I)++⟨#[32]⟩=⟨#[105,109,103,32]⟩:=by decide
theorem aPP:(⟨#[105,109,103,32]⟩:I)++⟨#[104,101,105,103,104,116]⟩=⟨#[105,109,103,32,104,101,105,103,104,116]⟩:=by decide
theorem aCP (v:I)(x:Int)(b:Bool)(h:eQ v 0 9999 x b):cI fA mF v v b:=by
 intro w T;have d:=Z (kD v 0 9999 x b h);clear T;unfold fA mF;have f:=aPG;have g:=aPP;go_enter Tryz.func83,Tryz.ntmps83;go_wp2_with fail;refine(d.o _).mono ?_;rintro x e ⟨rfl,a⟩;have c:=Z a;clear a;go_wp2;go_ret2;exact⟨rfl,c.o⟩
theorem aPH:(⟨#[105,109,103]⟩:I)++⟨#[32]⟩=⟨#[105,109,103,32]⟩:=by decide
theorem aPQ:(⟨#[105,109,103,32]⟩:I)++⟨#[119,105,100,116,104]⟩=⟨#[105,109,103,32,119,105,100,116,104]⟩:=by decide
theorem aDV (v:I)(x:Int)(b:Bool)(h:eQ v 0 9999 x b):cI fA oT v v b:=by
 intro w T;have d:=Z (kD v 0 9999 x b h);clear T;unfold fA oT;have f:=aPH;have g:=aPQ;go_enter Tryz.func83,Tryz.ntmps83;go_wp2_with fail;refine(d.o _).mono ?_;rintro x e ⟨rfl,a⟩;have c:=Z a;clear a;go_wp2;go_ret2;exact⟨rfl,c.o⟩
theorem aPI:(⟨#[111,108]⟩:I)++⟨#[32]⟩=⟨#[111,108,32]⟩:=by decide
theorem aPR:(⟨#[111,108,32]⟩:I)++⟨#[115,116,97,114,116]⟩=⟨#[111,108,32,115,116,97,114,116]⟩:=by decide
theorem aE5 (v:I)(x:Int)(b:Bool)(h:eQ v 0 999999 x b):cI sOl oS v v b:=by
 intro w T;have d:=Z (kD v 0 999999 x b h);clear T;unfold sOl oS;have f:=aPI;have g:=aPR;go_enter Tryz.func83,Tryz.ntmps83;go_wp2_with fail;refine(d.o _).mono ?_;rintro x e ⟨rfl,a⟩;have c:=Z a;clear a;go_wp2;go_ret2;exact⟨rfl,c.o⟩
theorem aPJ:(⟨#[116,100]⟩:I)++⟨#[32]⟩=⟨#[116,100,32]⟩:=by decide
theorem aPS:(⟨#[116,100,32]⟩:I)++⟨#[99,111,108,115,112,97,110]⟩=⟨#[116,100,32,99,111,108,115,112,97,110]⟩:=by decide
theorem aCR (v:I)(x:Int)(b:Bool)(h:eQ v 1 1000 x b):cI sTd gT v v b:=by
 intro w T;have d:=Z (kD v 1 1000 x b h);clear T;unfold sTd gT;have f:=aPJ;have g:=aPS;go_enter Tryz.func83,Tryz.ntmps83;go_wp2_with fail;refine(d.o _).mono ?_;rintro x e ⟨rfl,a⟩;have c:=Z a;clear a;go_wp2;go_ret2;exact⟨rfl,c.o⟩
theorem aPK:(⟨#[116,100]⟩:I)++⟨#[32]⟩=⟨#[116,100,32]⟩:=by decide
theorem aPT:(⟨#[116,100,32]⟩:I)++⟨#[114,111,119,115,112,97,110]⟩=⟨#[116,100,32,114,111,119,115,112,97,110]⟩:=by decide
theorem aCS (v:I)(x:Int)(b:Bool)(h:eQ v 1 1000 x b):cI sTd gU v v b:=by
 intro w T;have d:=Z (kD v 1 1000 x b h);clear T;unfold sTd gU;have f:=aPK;have g:=aPT;go_enter Tryz.func83,Tryz.ntmps83;go_wp2_with fail;refine(d.o _).mono ?_;rintro x e ⟨rfl,a⟩;have c:=Z a;clear a;go_wp2;go_ret2;exact⟨rfl,c.o⟩
theorem aPL:(⟨#[116,104]⟩:I)++⟨#[32]⟩=⟨#[116,104,32]⟩:=by decide
theorem aPU:(⟨#[116,104,32]⟩:I)++⟨#[99,111,108,115,112,97,110]⟩=⟨#[116,104,32,99,111,108,115,112,97,110]⟩:=by decide
theorem aCT (v:I)(x:Int)(b:Bool)(h:eQ v 1 1000 x b):cI sTh gT v v b:=by
 intro w T;have d:=Z (kD v 1 1000 x b h);clear T;unfold sTh gT;have f:=aPL;have g:=aPU;go_enter Tryz.func83,Tryz.ntmps83;go_wp2_with fail;refine(d.o _).mono ?_;rintro x e ⟨rfl,a⟩;have c:=Z a;clear a;go_wp2;go_ret2;exact⟨rfl,c.o⟩
theorem aPM:(⟨#[116,104]⟩:I)++⟨#[32]⟩=⟨#[116,104,32]⟩:=by decide
theorem aPV:(⟨#[116,104,32]⟩:I)++⟨#[114,111,119,115,112,97,110]⟩=⟨#[116,104,32,114,111,119,115,112,97,110]⟩:=by decide
theorem aCU (v:I)(x:Int)(b:Bool)(h:eQ v 1 1000 x b):cI sTh gU v v b:=by
 intro w T;have d:=Z (kD v 1 1000 x b h);clear T;unfold sTh gU;have f:=aPM;have g:=aPV;go_enter Tryz.func83,Tryz.ntmps83;go_wp2_with fail;refine(d.o _).mono ?_;rintro x e ⟨rfl,a⟩;have c:=Z a;clear a;go_wp2;go_ret2;exact⟨rfl,c.o⟩
theorem aNG:(⟨#[109,101,116,101,114]⟩:I)++⟨#[32]⟩=⟨#[109,101,116,101,114,32]⟩:=by decide
theorem aNN:(⟨#[109,101,116,101,114,32]⟩:I)++⟨#[109,97,120]⟩=⟨#[109,101,116,101,114,32,109,97,120]⟩:=by decide
theorem aDX (v t:I)(b:Bool)(h:∀w,aA w->Y 20 #[.string v] w (O (.tuple #[.string t,.bool b]) w)):cI dM sX v t b:=by
 intro w T;have d:=Z (h w T);clear T h;unfold dM sX;have f:=aNG;have g:=aNN;go_enter Tryz.func83,Tryz.ntmps83;go_wp2_with fail;refine d.o.mono ?_;rintro x e ⟨rfl,a⟩;have c:=Z a;clear a;go_wp2;go_ret2;exact⟨rfl,c.o⟩
theorem aNH:(⟨#[109,101,116,101,114]⟩:I)++⟨#[32]⟩=⟨#[109,101,116,101,114,32]⟩:=by decide
theorem aNO:(⟨#[109,101,116,101,114,32]⟩:I)++⟨#[118,97,108,117,101]⟩=⟨#[109,101,116,101,114,32,118,97,108,117,101]⟩:=by decide
theorem aBQ (v t:I)(b:Bool)(h:∀w,aA w->Y 20 #[.string v] w (O (.tuple #[.string t,.bool b]) w)):cI dM lR v t b:=by
 intro w T;have d:=Z (h w T);clear T h;unfold dM lR;have f:=aNH;have g:=aNO;go_enter Tryz.func83,Tryz.ntmps83;go_wp2_with fail;refine d.o.mono ?_;rintro x e ⟨rfl,a⟩;have c:=Z a;clear a;go_wp2;go_ret2;exact⟨rfl,c.o⟩
theorem aNI:(⟨#[109,101,116,101,114]⟩:I)++⟨#[32]⟩=⟨#[109,101,116,101,114,32]⟩:=by decide
theorem aNP:(⟨#[109,101,116,101,114,32]⟩:I)++⟨#[104,105,103,104]⟩=⟨#[109,101,116,101,114,32,104,105,103,104]⟩:=by decide
theorem aCQ (v t:I)(b:Bool)(h:∀w,aA w->Y 20 #[.string v] w (O (.tuple #[.string t,.bool b]) w)):cI dM wP v t b:=by
 intro w T;have d:=Z (h w T);clear T h;unfold dM wP;have f:=aNI;have g:=aNP;go_enter Tryz.func83,Tryz.ntmps83;go_wp2_with fail;refine d.o.mono ?_;rintro x e ⟨rfl,a⟩;have c:=Z a;clear a;go_wp2;go_ret2;exact⟨rfl,c.o⟩
theorem aNJ:(⟨#[109,101,116,101,114]⟩:I)++⟨#[32]⟩=⟨#[109,101,116,101,114,32]⟩:=by decide
theorem aNQ:(⟨#[109,101,116,101,114,32]⟩:I)++⟨#[108,111,119]⟩=⟨#[109,101,116,101,114,32,108,111,119]⟩:=by decide
theorem aDW (v t:I)(b:Bool)(h:∀w,aA w->Y 20 #[.string v] w (O (.tuple #[.string t,.bool b]) w)):cI dM aBd v t b:=by
 intro w T;have d:=Z (h w T);clear T h;unfold dM aBd;have f:=aNJ;have g:=aNQ;go_enter Tryz.func83,Tryz.ntmps83;go_wp2_with fail;refine d.o.mono ?_;rintro x e ⟨rfl,a⟩;have c:=Z a;clear a;go_wp2;go_ret2;exact⟨rfl,c.o⟩
theorem aNK:(⟨#[109,101,116,101,114]⟩:I)++⟨#[32]⟩=⟨#[109,101,116,101,114,32]⟩:=by decide
theorem aNR:(⟨#[109,101,116,101,114,32]⟩:I)++⟨#[109,105,110]⟩=⟨#[109,101,116,101,114,32,109,105,110]⟩:=by decide
theorem aDY (v t:I)(b:Bool)(h:∀w,aA w->Y 20 #[.string v] w (O (.tuple #[.string t,.bool b]) w)):cI dM aBe v t b:=by
 intro w T;have d:=Z (h w T);clear T h;unfold dM aBe;have f:=aNK;have g:=aNR;go_enter Tryz.func83,Tryz.ntmps83;go_wp2_with fail;refine d.o.mono ?_;rintro x e ⟨rfl,a⟩;have c:=Z a;clear a;go_wp2;go_ret2;exact⟨rfl,c.o⟩
theorem aNL:(⟨#[112,114,111,103,114,101,115,115]⟩:I)++⟨#[32]⟩=⟨#[112,114,111,103,114,101,115,115,32]⟩:=by decide
theorem aNS:(⟨#[112,114,111,103,114,101,115,115,32]⟩:I)++⟨#[109,97,120]⟩=⟨#[112,114,111,103,114,101,115,115,32,109,97,120]⟩:=by decide
theorem aA1 (v t:I)(b:Bool)(h:∀w,aA w->Y 20 #[.string v] w (O (.tuple #[.string t,.bool b]) w)):cI fO sX v t b:=by
 intro w T;have d:=Z (h w T);clear T h;unfold fO sX;have f:=aNL;have g:=aNS;go_enter Tryz.func83,Tryz.ntmps83;go_wp2_with fail;refine d.o.mono ?_;rintro x e ⟨rfl,a⟩;have c:=Z a;clear a;go_wp2;go_ret2;exact⟨rfl,c.o⟩
theorem aNM:(⟨#[112,114,111,103,114,101,115,115]⟩:I)++⟨#[32]⟩=⟨#[112,114,111,103,114,101,115,115,32]⟩:=by decide
theorem aNT:(⟨#[112,114,111,103,114,101,115,115,32]⟩:I)++⟨#[118,97,108,117,101]⟩=⟨#[112,114,111,103,114,101,115,115,32,118,97,108,117,101]⟩:=by decide
theorem yC (v t:I)(b:Bool)(h:∀w,aA w->Y 20 #[.string v] w (O (.tuple #[.string t,.bool b]) w)):cI fO lR v t b:=by
 intro w T;have d:=Z (h w T);clear T h;unfold fO lR;have f:=aNM;have g:=aNT;go_enter Tryz.func83,Tryz.ntmps83;go_wp2_with fail;refine d.o.mono ?_;rintro x e ⟨rfl,a⟩;have c:=Z a;clear a;go_wp2;go_ret2;exact⟨rfl,c.o⟩
def aCO:List (U × U):=[([97],[104,114,101,102]),([105,109,103],[115,114,99]),([105,109,103],[97,108,116]),([105,109,103],[104,101,105,103,104,116]),([105,109,103],[119,105,100,116,104]),([111,108],[115,116,97,114,116]),([116,100],[99,111,108,115,112,97,110]),([116,100],[114,111,119,115,112,97,110]),([116,104],[99,111,108,115,112,97,110]),([116,104],[114,111,119,115,112,97,110]),([109,101,116,101,114],[109,97,120]),([109,101,116,101,114],[118,97,108,117,101]),([109,101,116,101,114],[104,105,103,104]),([109,101,116,101,114],[108,111,119]),([109,101,116,101,114],[109,105,110]),([112,114,111,103,114,101,115,115],[109,97,120]),([112,114,111,103,114,101,115,115],[118,97,108,117,101])]
def aA0:List (U):=[[97,32,104,114,101,102],[105,109,103,32,115,114,99],[105,109,103,32,97,108,116],[105,109,103,32,104,101,105,103,104,116],[105,109,103,32,119,105,100,116,104],[111,108,32,115,116,97,114,116],[116,100,32,99,111,108,115,112,97,110],[116,100,32,114,111,119,115,112,97,110],[116,104,32,99,111,108,115,112,97,110],[116,104,32,114,111,119,115,112,97,110],[109,101,116,101,114,32,109,97,120],[109,101,116,101,114,32,118,97,108,117,101],[109,101,116,101,114,32,104,105,103,104],[109,101,116,101,114,32,108,111,119],[109,101,116,101,114,32,109,105,110],[112,114,111,103,114,101,115,115,32,109,97,120],[112,114,111,103,114,101,115,115,32,118,97,108,117,101]]
theorem aGD {P:Program}{b:Func}{s t:Nat}{a:Array Value}{u v:Value}(w:H)(h:b.results=#[.tmp s,.tmp t])(c:a.getD s undef=u)(d:a.getD t undef=v):(results b a).run P w=.ok (.tuple #[u,v]) w:=by
 unfold results;rw[h];rw[jp]at c d;simp[c,d]
theorem aI9 {P:Program}{Q:Exit->Act->H->Prop}{w:H}{s:I}{k n:Nat}{B C:TypeId}{b c:Nat}{v1 v2:Value}{D:Nat}{p1 p2:String}{r f:Array Edge}{a:Act}(i:gY s k n a)(d:(b !=k&&c !=k&&b !=c&&decide (b<n)&&decide (c<n))=true)
  (h:∀e,gY s k n e->e.eval (.tmp b)=v1->e.eval (.tmp c)=v2->Q .normal e w) :
  (Code.region D #[{ dst:=some b,op:=Op.assign (Operand.const v1),type:=B,pos:=p1,after:=r,guard:=none },{ dst:=some c,op:=Op.assign (Operand.const v2),type:=C,pos:=p2,after:=f,guard:=none }] false).wp P Q a w:=by
 simp only[bp,ct,ne_eq,bi]at d;have g:=i.put b v1 d.1.1.1.1;have j:=sI (a:=a) (t:=b) (v:=v1) (by rw[i.size];exact d.1.2);have u:=g.put c v2 d.1.1.1.2;have m:=sI (a:=a.put (some b) v1) (t:=c) (v:=v2) (by rw[g.size];exact d.2);have e3:((a.put (some b) v1).put (some c) v2).eval (.tmp b)=v1:=by
  rw[<-j];simp[Act.eval,Act.put,Array.getD_eq_getD_getElem?,Ne.symm d.1.1.2];intro x y;omega
 have p:a.eval (.const v1)=v1:=rfl;have q:(a.put (some b) v1).eval (.const v2)=v2:=rfl;refine px (l:=[_,_]) ?_;refine iq rfl fun K z=>?_
 have hx:=z _ _ (iq (P:=P) (w:=w) (rest:=[]) (o:={ dst:=some c,op:=Op.assign (Operand.const v2),type:=C,pos:=p2,after:=f,guard:=none }) (a:=a.put (some b) v1) rfl fun E A=>by
  have:=A _ _ (pz (h _ u e3 m));unfold Oper.wp;simp[execOp,q,Oper.upon];exact this)
 unfold Oper.wp;simp[execOp,p,Oper.upon];exact hx
theorem aJD (e n v:I)(r:e.size<=1000000000)(s:n.size<=1000000000)(K:I)(j:G (K=e++⟨#[32]⟩++n))(m:(n.toList==[116,105,116,108,101])=false)(p:(n.toList==[108,97,110,103])=false)(q:(n.toList==[100,105,114])=false)
  (d:G (∀l:U,aA0.contains l=true->(K.toList==(⟨l.toArray⟩:I).toList)=false)):cI e n v ⟨#[]⟩ false:=by
 intro w T;clear T;have k:e++⟨#[32]⟩++n=K:=j.o.symm;go_enter Tryz.func83,Tryz.ntmps83;go_upto_region 15 with fail
 rename_i k1 g t f;refine aAQ 9 K _ 37 90 (d.o _ (by decide +kernel)) ⟨rfl,rfl,rfl⟩ rfl ?_;intro a b c;repeat' (first
  | (refine aAQ 9 K _ 37 90 (d.o _ (by decide +kernel)) b rfl ?_;clear b;intro a b c)
  | (with_reducible refine mY ?_)
  | (with_reducible refine xY ?_)
  | (with_reducible refine wp_cond_false c ?_)
  | (with_reducible refine wp_seq ?_)
  | (with_reducible refine wp_skip ?_)
  | (with_reducible refine f _ _ ?_)
  | (with_reducible refine g _ _ ?_))
 refine aI9 b rfl ?_;clear b c;intro a b h i;refine mY (wp_ret ?_);exact⟨b.defers,_,aGD w rfl h i,rfl,am _ _⟩
open Go.RowKit
def aQ1:List I:=[tU,zB,zD]
structure aBq (sm:I) (B k:Nat) (w wx:H):Prop where
 le:k<=3
 no1:1<=k->sm≠tU
 no2:2<=k->sm≠zB
 no3:3<=k->sm≠zD
 str:qD wx B 0 aQ1
 bel:Below B w wx
 lt:B<wx.heap.size
structure aPx (sm t:I) (b:Bool):Prop where
 yes:aAU sm->sm=t/\true=b
 no:¬aAU sm->t=⟨#[]⟩/\b=false
theorem rO {a c:I}(l:U)(h:a≠c)(b:c.data.toList=l):(a.toList==l)=false:=by
 rw[ai,toList_data,<-b];exact fun e=>h (fF e)
theorem aE3 (e v t:I)(b:Bool)(A:v.size<=140737488355328)(p:G (aPx (cY v) t b)):cI e wO v t b:=by
 intro w T;have S:=fun W=>aDC v A W;rw[show(⟨(bO v.data.toList).toArray⟩:I)=cY v from rfl]at S;generalize cY v=sm at *;have g:=Z S;clear S T;unfold wO;go_enter Tryz.func83,Tryz.ntmps83;go_upto_region 8 with fail
 have u:G (aBq sm w.heap.size 0 w (w.alloc (.cells #[Value.string ⟨#[97,117,116,111]⟩,Value.string ⟨#[108,116,114]⟩,Value.string ⟨#[114,116,108]⟩] 9))):=by
  refine⟨by omega,by omega,by omega,by omega,?_,(am _ w).alloc aBZ _,by simp⟩;intro j q;rw[bw,au _ w.heap.size j _ 9 (0,0) (cc w _)];have:∀j<3,(#[Value.string ⟨#[97,117,116,111]⟩,Value.string ⟨#[108,116,114]⟩,Value.string ⟨#[114,116,108]⟩]:Array Value)[j]?=some (Value.string (aQ1.getD j ByteArray.empty)):=by
   intro j q;match j,q with
   | 0,_=>rfl
   | 1,_=>rfl
   | 2,_=>rfl
  exact this j q
 go_loopw [6,7,24] (fun B C i wx=>B=.string ⟨#[]⟩/\C=.bool false/\∃k:Nat,i=.int .i64 k/\G (aBq sm w.heap.size k w wx)) (fun _ _ i _=>3-(intOf i).toNat);case atStart=>exact⟨rfl,rfl,0,rfl,u⟩
 case round =>
  obtain⟨rfl,rfl,k,rfl,a⟩:=hrel;have D:=a.o.le;have y:k=0\/k=1\/k=2\/k=3:=by{omega};rcases y with rfl|rfl|rfl|rfl;{have r:wr.cell? ⟨w.heap.size,0,none⟩=some (.string ⟨#[97,117,116,111]⟩):=a.o.str 0 (by decide);by_cases d:sm=tU;{obtain⟨rfl,rfl⟩:=p.o.yes (.inl d);subst d;unfold tU at *;go_wp2_with fail;refine(g.o _).mono ?_;rintro x f ⟨rfl,c⟩;have l:=Z (a.o.bel.trans (c.mono (b6 a.o.lt)));clear c;go_wp2;go_ret2;exact⟨rfl,l.o⟩};{have s:=rO [97,117,116,111] d rfl;have m:=Z d;clear d;go_wp2_with fail;refine(g.o _).mono ?_;rintro x f ⟨rfl,c⟩;have n:G (aBq sm w.heap.size 1 w f):=⟨by omega,fun _=>m.o,by omega,by omega,a.o.str.below c a.o.lt,a.o.bel.trans (c.mono (b6 a.o.lt)),dj a.o.lt c.size⟩;clear c;go_wp2;go_roundw;(case rel=>exact⟨rfl,rfl,1,by go_num,n⟩);case measure=>simp[intOf]}};{have r:wr.cell? ⟨w.heap.size,1,none⟩=some (.string ⟨#[108,116,114]⟩):=a.o.str 1 (by decide);by_cases d:sm=zB;{obtain⟨rfl,rfl⟩:=p.o.yes (.inr (.inl d));subst d;unfold zB at *;go_wp2_with fail;refine(g.o _).mono ?_;rintro x f ⟨rfl,c⟩;have l:=Z (a.o.bel.trans (c.mono (b6 a.o.lt)));clear c;go_wp2;go_ret2;exact⟨rfl,l.o⟩};{have s:=rO [108,116,114] d rfl;have m:=Z d;clear d;go_wp2_with fail;refine(g.o _).mono ?_;rintro x f ⟨rfl,c⟩;have n:G (aBq sm w.heap.size 2 w f):=⟨by omega,fun _=>a.o.no1 (by omega),fun _=>m.o,by omega,a.o.str.below c a.o.lt,a.o.bel.trans (c.mono (b6 a.o.lt)),dj a.o.lt c.size⟩;clear c;go_wp2;go_roundw;(case rel=>exact⟨rfl,rfl,2,by go_num,n⟩);case measure=>simp[intOf]}};{have r:wr.cell? ⟨w.heap.size,2,none⟩=some (.string ⟨#[114,116,108]⟩):=a.o.str 2 (by decide);by_cases d:sm=zD;{obtain⟨rfl,rfl⟩:=p.o.yes (.inr (.inr d));subst d;unfold zD at *;go_wp2_with fail;refine(g.o _).mono ?_;rintro x f ⟨rfl,c⟩;have l:=Z (a.o.bel.trans (c.mono (b6 a.o.lt)));clear c;go_wp2;go_ret2;exact⟨rfl,l.o⟩};{have s:=rO [114,116,108] d rfl;have m:=Z d;clear d;go_wp2_with fail;refine(g.o _).mono ?_;rintro x f ⟨rfl,c⟩;have n:G (aBq sm w.heap.size 3 w f):=⟨by omega,fun _=>a.o.no1 (by omega),fun _=>a.o.no2 (by omega),fun _=>m.o,a.o.str.below c a.o.lt,a.o.bel.trans (c.mono (b6 a.o.lt)),dj a.o.lt c.size⟩;clear c;go_wp2;go_roundw;(case rel=>exact⟨rfl,rfl,3,by go_num,n⟩);case measure=>simp[intOf]}}
  ·obtain⟨rfl,rfl⟩:=p.o.no (fun z=>by
    rcases z with h|h|h
    ·exact a.o.no1 (by omega) h
    ·exact a.o.no2 (by omega) h
    ·exact a.o.no3 (by omega) h)
   go_wp2;go_ret2;exact⟨rfl,a.o.bel⟩
