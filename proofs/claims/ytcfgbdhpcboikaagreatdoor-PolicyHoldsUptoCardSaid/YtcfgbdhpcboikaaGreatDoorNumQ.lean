/-
Every numeral's parts; what readFloat and special give of it.
-/
import Derived.Test.YtcfgbdhpcboikaaGreatDoorNumL
import Derived.Great.Walk
import Derived.Test.YtcfgbdhpcboikaaGreatDoorDecH
namespace Go.Proofs.YtcfgbdhpcboikaaGreatDoor
open Go.Lib (hid)
set_option maxHeartbeats 2000000
set_option maxRecDepth 100000
open Go.RowKit
theorem aBs {n:Nat}:n≤n:=Nat.le_refl n
structure aKN (s:ByteArray) (neg:Bool) (A F:List UInt8) (dot:Bool) (X:List UInt8) (ev:Int):Prop where
 txt:s.data.toList=(if neg then [45]else [])++(A++(if dot then 46 :: F else []))++X
 digA:∀c∈A,aE c=true
 digF:∀c∈F,aE c=true
 ne:A≠[]∨dot=true
 F1:dot=true→F≠[]
 exp:(X=[]∧ev=0)∨∃(cE:UInt8) (sg Dg:List UInt8) (es:Int),X=cE :: sg++Dg∧(cE=101∨cE=69)∧Dg≠[]∧(∀c∈Dg,aE c=true)∧((sg=[]∧es=1)∨(sg=[43]∧es=1)∨(sg=[45]∧es=-1))∧ev=(bR Dg:Nat)*es
 len:s.size≤40
theorem aK4 {s:ByteArray}{neg dot:Bool}{A F X:List UInt8}{ev:Int}(N:aKN s neg A F dot X ev):∀c∈bJ A F dot,cO c=true:=by
 intro c hc;unfold bJ at hc;rcases List.mem_append.1 hc with h|h
 ·unfold cO;rw[N.digA c h];rfl
 ·cases dot
  ·simp at h
  ·rw[if_pos rfl]at h
   rcases List.mem_cons.1 h with h|h
   ·rw[h];rfl
   ·unfold cO;rw[N.digF c h];rfl
theorem vF (l:List UInt8):∃A r,l=A++r∧A.length=digs l∧(∀c∈A,aE c=true)∧l.take (digs l)=A∧l.drop (digs l)=r:=by
 refine⟨l.takeWhile aE,l.dropWhile aE,List.takeWhile_append_dropWhile.symm,rfl,?_,?_,?_⟩
 ·intro c hc;induction l with
  | nil=>cases hc
  | cons d l ih =>
   rw[List.takeWhile_cons]at hc
   split at hc
   ·rename_i hd;rcases List.mem_cons.1 hc with h|h
    ·rw[h];exact hd
    ·exact ih h
   ·cases hc
 ·have e:l=l.takeWhile aE++l.dropWhile aE:=List.takeWhile_append_dropWhile.symm;conv=>lhs;arg 2;rw[e]
  unfold digs;exact List.take_left
 ·have e:l=l.takeWhile aE++l.dropWhile aE:=List.takeWhile_append_dropWhile.symm;conv=>lhs;arg 2;rw[e]
  unfold digs;exact List.drop_left
theorem aJC (y:List UInt8)(h:oC y=true):∃(sg Dg:List UInt8) (es:Int),y=sg++Dg∧Dg≠[]∧(∀c∈Dg,aE c=true)∧((sg=[]∧es=1)∨(sg=[43]∧es=1)∨(sg=[45]∧es=-1)):=by
 have all:∀l:List UInt8,(!l.isEmpty&&digs l==l.length)=true→l≠[]∧∀c∈l,aE c=true:=by
  intro l hl;rw[Bool.and_eq_true]at hl
  obtain⟨h1,h2⟩:=hl;refine⟨by rintro rfl;exact absurd h1 (by decide),?_⟩;obtain⟨A,r,e,hA,hd,_,_⟩:=vF l;have h2:digs l=l.length:=by simpa using h2
  have:r=[]:=by
   have h3:l.length=A.length+r.length:=by rw[e];simp
   exact List.eq_nil_of_length_eq_zero (by omega)
  rw[e,this,List.append_nil];exact hd
 unfold oC at h;cases y with
 | nil =>
  have:=(all [] h).1;exact absurd rfl this
 | cons c y =>
  by_cases h1:c=43
  ·rw[if_pos (.inl (by rw[h1];rfl))]at h
   obtain⟨a,b⟩:=all y h;exact⟨[43],y,1,by rw[h1];rfl,a,b,.inr (.inl ⟨rfl,rfl⟩)⟩
  ·by_cases h2:c=45
   ·rw[if_pos (.inr (by rw[h2];rfl))]at h
    obtain⟨a,b⟩:=all y h;exact⟨[45],y,-1,by rw[h2];rfl,a,b,.inr (.inr ⟨rfl,rfl⟩)⟩
   ·rw[if_neg (by simp[h1,h2])]at h
    obtain⟨a,b⟩:=all (c :: y) h;exact⟨[],c :: y,1,rfl,a,b,.inl ⟨rfl,rfl⟩⟩
theorem aCV (n:Nat)(X:List UInt8)(h:jS n X=true):n≠0∧∃ev:Int,(X=[]∧ev=0)∨∃(cE:UInt8) (sg Dg:List UInt8) (es:Int),X=cE :: sg++Dg∧(cE=101∨cE=69)∧Dg≠[]∧(∀c∈Dg,aE c=true)∧((sg=[]∧es=1)∨(sg=[43]∧es=1)∨(sg=[45]∧es=-1))∧ev=(bR Dg:Nat)*es:=by
 unfold jS at h;split at h
 ·cases h
 ·rename_i hn;refine⟨hn,?_⟩;split at h
  ·rename_i hX;exact⟨0,.inl ⟨hX,rfl⟩⟩
  ·rename_i hX;split at h
   ·rename_i hc;cases X with
    | nil=>exact absurd rfl hX
    | cons c y =>
     obtain⟨sg,Dg,es,e,a,b,d⟩:=aJC y h;exact⟨_,.inr ⟨c,sg,Dg,es,by rw[e];rfl,by simpa using hc,a,b,d,rfl⟩⟩
   ·cases h
theorem aJD (s:ByteArray)(h:bX s.data.toList=true):∃neg A F dot X ev,aKN s neg A F dot X ev:=by
 unfold bX at h;split at h
 ·cases h
 ·rename_i hl;have hsz:s.size≤40:=by rw[aS];omega
  obtain⟨neg,l1,e1,h⟩:∃(neg:Bool) (l1:List UInt8),s.data.toList=(if neg then [45]else [])++l1∧rO l1=true:=by
   split at h
   ·rename_i h45;cases hs:s.data.toList with
    | nil=>rw[hs]at h45;cases h45
    | cons c l =>
     rw[hs]at h45 h
     have:c=45:=by simpa using h45
     exact⟨true,l,by rw[this];rfl,h⟩
   ·exact⟨false,_,rfl,h⟩
  unfold rO at h;obtain⟨A,r,e2,hA,dA,_,er⟩:=vF l1;rw[er]at h
  split at h
  ·rename_i h46;cases r with
   | nil=>cases h46
   | cons c r =>
    have hc:c=46:=by simpa using h46
    subst hc;have e3:(46 :: r).drop 1=r:=rfl;rw[e3]at h
    obtain⟨F,X,e4,hF,dF,_,eX⟩:=vF r;split at h
    ·cases h
    ·rename_i hf0;have e5:(46 :: r).drop (1+digs r)=X:=by
      rw[Nat.add_comm,List.drop_succ_cons];exact eX
     rw[e5]at h
     obtain⟨_,ev,hX⟩:=aCV _ _ h;refine⟨neg,A,F,true,X,ev,⟨?_,dA,dF,.inr rfl,?_,hX,hsz⟩⟩
     ·rw[e1,e2,e4];simp
     ·rintro _ rfl;exact hf0 (by rw[←hF];rfl)
  ·obtain⟨hn,ev,hX⟩:=aCV _ _ h;refine⟨neg,A,[],false,r,ev,⟨?_,dA,by simp,.inl ?_,by simp,hX,hsz⟩⟩
   ·rw[e1,e2];simp
   ·rintro rfl;exact hn (by rw[←hA];rfl)
theorem aHv {s:ByteArray}{neg dot:Bool}{A F X:List UInt8}{ev:Int}(N:aKN s neg A F dot X ev) :
  ∃p0 q,wP s neg p0∧nD s p0 q∧aAY s q ev∧aK s p0 q=bJ A F dot∧p0<s.size∧(∀h:p0<s.size,s[p0].toNat≤57)∧p0=(if neg then 1 else 0):=by
 obtain⟨S,hS⟩:∃S:List UInt8,(if neg then [45]else [])=S:=⟨_,rfl⟩
 obtain⟨W,hW⟩:∃W,bJ A F dot=W:=⟨_,rfl⟩
 have ht:=N.txt;have hch:=aK4 N;rw[hW]at hch
 have hW':A++(if dot then 46 :: F else [])=W:=hW;rw[hS,hW']at ht
 have hsz:s.size=S.length+W.length+X.length:=by rw[aS,ht];simp;omega
 have hA:1≤W.length:=by
  rw[←hW'];rcases N.ne with h|h
  ·have:=List.length_pos_iff.2 h;simp;omega
  ·rw[h];simp;omega
 have hp0:S.length=(if neg then 1 else 0):=by rw[←hS];cases neg<;>rfl
 have first:∀h:S.length<s.size,aE s[S.length]=true∨s[S.length]=46:=by
  intro h;have e:=cV s S W X ht S.length h aBs (by omega);rw[e];have:=hch (W[S.length-S.length]'(by omega)) (List.getElem_mem _);simpa [cO]using this
 have hlt:S.length<s.size:=by omega
 have fb:46≤s[S.length].toNat∧s[S.length].toNat≤57:=by
  rcases first hlt with h|h
  ·have:=dV _ h;omega
  ·rw[h];decide
 refine⟨S.length,S.length+W.length,?_,?_,?_,?_,hlt,fun h=>fb.2,hp0⟩
 ·refine⟨by omega,?_⟩;cases neg
  ·have hS0:S=[]:=by rw[←hS];rfl
   subst hS0;left;have b:=fb;refine⟨rfl,rfl,?_,?_⟩
   ·rw[beq_eq_false_iff_ne];have:(s[0].toNat)=s[([]:List UInt8).length].toNat:=rfl;omega
   ·rw[beq_eq_false_iff_ne];have:(s[0].toNat)=s[([]:List UInt8).length].toNat:=rfl;omega
  ·have hS0:S=[45]:=by rw[←hS];rfl
   subst hS0;right;have e:=cV s [] [45] (W++X) (by rw[ht];simp) 0 (by omega) (Nat.zero_le _) (by simp);have e':s[0]'(by omega)=45:=e;refine⟨rfl,rfl,?_,?_⟩
   ·rw[e'];decide
   ·rw[e'];decide
 ·refine⟨by omega,by omega,?_,?_,?_,?_⟩
  ·intro j h h1 h2;rw[cV s S W X ht j h h1 (by omega)];exact hch _ (List.getElem_mem _)
  ·intro j h h1 h2 h46;rw[aEO s S W X ht j h1 (by omega)];have e:=cV s S W X ht j h h1 (by omega);rw[h46]at e
   have hj:j-S.length=A.length:=by
    rcases Nat.lt_trichotomy (j-S.length) A.length with hl|hl|hl
    ·exfalso;have e2:W[j-S.length]'(by omega)=A[j-S.length]'hl:=by
      have:=List.getElem_of_eq hW'.symm (i:=j-S.length) (by omega);rw[this,List.getElem_append_left hl]
     rw[e2]at e
     have:=N.digA _ (List.getElem_mem hl);rw[←e]at this
     exact absurd this (by decide)
    ·exact hl
    ·exfalso;cases dot
     ·have:W=A:=by rw[←hW'];simp
      rw[this]at h2
      omega
     ·have hWe:W=A++46 :: F:=by rw[←hW'];rfl
      have hlF:j-S.length-A.length-1<F.length:=by
       have:W.length=A.length+(F.length+1):=by rw[hWe];simp
       omega
      have e2:W[j-S.length]'(by omega)=F[j-S.length-A.length-1]'hlF:=by
       have:=List.getElem_of_eq hWe (i:=j-S.length) (by omega);rw[this,List.getElem_append_right (by omega)];rw[List.getElem_cons];rw[dif_neg (by omega)]
      rw[e2]at e
      have:=N.digF _ (List.getElem_mem hlF);rw[←e]at this
      exact absurd this (by decide)
   have e3:W.take (j-S.length)=A:=by
    rw[hj,←hW',List.take_left]
   rw[e3];exact tP A N.digA
  ·rw[oR s S W X ht];rcases N.ne with h|h
   ·obtain⟨c,hc⟩:=List.exists_mem_of_ne_nil _ h;exact xZ W c (by rw[←hW'];simp[hc]) (N.digA c hc)
   ·obtain⟨c,hc⟩:=List.exists_mem_of_ne_nil _ (N.F1 h);exact xZ W c (by rw[←hW',h];simp[hc]) (N.digF c hc)
  ·intro h;have hX:X≠[]:=by
    intro h0;rw[h0]at hsz
    simp at hsz;omega
   have e:=cV s (S++W) X [] (by rw[ht];simp) (S.length+W.length) h (by simp) (by
    simp;exact List.length_pos_iff.2 hX)
   rw[e];rcases N.exp with⟨h0,_⟩|⟨cE,sg,Dg,es,h0,hcE,_⟩
   ·exact absurd h0 hX
   ·subst h0;simpa using hcE
 ·rcases N.exp with⟨h0,h1⟩|⟨cE,sg,Dg,es,hX,hcE,hne,hdg,hsg,hev⟩
  ·left;rw[h0]at hsz
   simp at hsz;exact⟨by omega,h1⟩
  ·right;have hDl:1≤Dg.length:=List.length_pos_iff.2 hne;have hXl:X.length=1+sg.length+Dg.length:=by rw[hX];simp;omega
   have hq:S.length+W.length+1<s.size:=by omega
   have htx:s.data.toList=(S++W++[cE]++sg)++Dg++[]:=by rw[ht,hX];simp
   have hl4:(S++W++[cE]++sg).length=S.length+W.length+1+sg.length:=by simp;omega
   refine⟨hq,S.length+W.length+1+sg.length,es,?_,by omega,?_,?_⟩
   ·rcases hsg with⟨h1,h2⟩|⟨h1,h2⟩|⟨h1,h2⟩
    ·left;refine⟨by rw[h1];rfl,h2,?_⟩;rw[h1]at hl4
     have:=cV s _ Dg [] htx (S.length+W.length+1) hq (by rw[h1,hl4];simp) (by rw[h1,hl4];simp;omega);rw[this];exact hdg _ (List.getElem_mem _)
    ·right;left;refine⟨by rw[h1];rfl,h2,?_⟩;have:=cV s (S++W++[cE]) sg Dg (by rw[ht,hX];simp) (S.length+W.length+1) hq (by simp;omega) (by rw[h1];simp;omega);rw[this];simp[h1]
    ·right;right;refine⟨by rw[h1];rfl,h2,?_⟩;have:=cV s (S++W++[cE]) sg Dg (by rw[ht,hX];simp) (S.length+W.length+1) hq (by simp;omega) (by rw[h1];simp;omega);rw[this];simp[h1]
   ·intro j h h1;have:=cV s _ Dg [] htx j h (by rw[hl4];exact h1) (by rw[hl4];omega);rw[this];exact hdg _ (List.getElem_mem _)
   ·have e:aK s (S.length+W.length+1+sg.length) s.size=Dg:=by
     have:=oR s _ Dg [] htx;rw[hl4,show S.length+W.length+1+sg.length+Dg.length=s.size by omega]at this
     exact this
    rw[e];exact hev
 ·rw[hW];exact oR s S W X ht
theorem aHu (s:ByteArray)(h:bX s.data.toList=true):∃neg p0 q ev,s.size≤40∧wP s neg p0∧nD s p0 q∧aAY s q ev ∧
  ∀w,Calls Tryz.prog 233 #[.string s] w fun e w'=>e=.returned (.tuple #[.float .f64 0,.int .i64 0,.bool false])∧w=w':=by
 obtain⟨neg,A,F,dot,X,ev,N⟩:=aJD s h;obtain⟨p0,q,⟨g0,hsg⟩,h2,h3,h4,h5,h6,h7⟩:=aHv N;refine⟨neg,p0,q,ev,N.len,⟨g0,hsg⟩,h2,h3,fun w=>?_⟩;have hl:=N.len;rcases hsg with⟨rfl,rfl,a,b⟩|⟨rfl,rfl,a,b⟩
 ·exact qC s w g0 hl (h6 h5) a b
 ·exact wI s w h5 hl a b (h6 h5)
open Go.RowKit
def aAm (s:ByteArray):Prop:=∀w,Calls Tryz.prog 233 #[.string s] w fun e w'=>e=.returned (.tuple #[.float .f64 0,.int .i64 0,.bool false])∧w=w'
def wO (s:ByteArray)(m:Nat)(x:Int)(neg tr:Bool):Prop:=∀w,Calls Tryz.prog 234 #[.string s] w fun e w'=>e=.returned (.tuple #[.int .u64 m,.int .i64 x,.bool neg,.bool tr,.bool false,.int .i64 s.size,.bool true])∧w=w'
theorem zS (s:ByteArray)(x:Int)(neg tr:Bool)(w:World)(T:aA w)(SP:aAm s)(RD:wO s 0 x neg tr) :
  Calls Tryz.prog 205 #[.string s] w fun e w'=>e=.returned (.tuple #[.float .f64 (sgn neg+0),.int .i64 s.size,.nilIface])∧w=w':=by
 have h3:=T.opt;have d1:=lN;have HSP:=hid SP;have HRD:=hid RD;clear SP RD T;cases neg;all_goals
  go_enter Tryz.func205,Tryz.ntmps205
  go_wp2_with (first
   | (go_at_call 233;refine(HSP.out _).mono ?_;rintro e w' ⟨rfl,rfl⟩)
   | (go_at_call 234;refine(HRD.out _).mono ?_;rintro e w' ⟨rfl,rfl⟩)
   | (go_at_call 242;((with_reducible refine(cU _).mono ?_);rintro e w' ⟨rfl,rfl⟩))
   | (go_at_call 242;((with_reducible refine(cI _).mono ?_);rintro e w' ⟨rfl,rfl⟩)))
  go_ret3;exact⟨rfl,rfl⟩
theorem aIr (s:ByteArray)(m:Nat)(x:Int)(neg tr:Bool)(w:World)(T:aA w)(SP:aAm s)(RD:wO s m x neg tr)(hm:m≠0)(hx:310<x) :
  Calls Tryz.prog 205 #[.string s] w fun e w'=>e=.returned (.tuple #[.float .f64 (sgn neg+9218868437227405312),.int .i64 s.size,.iface 158 (.int .i64 1)])∧w=w':=by
 have h3:=T.opt;have d1:=lN;have hm0:((m:Int)==0)=false:=beq_eq_false_iff_ne.2 (by omega);have HSP:=hid SP;have HRD:=hid RD;clear SP RD T;cases neg;all_goals
  go_enter Tryz.func205,Tryz.ntmps205
  go_wp2_with (first
   | (go_at_call 233;refine(HSP.out _).mono ?_;rintro e w' ⟨rfl,rfl⟩)
   | (go_at_call 234;refine(HRD.out _).mono ?_;rintro e w' ⟨rfl,rfl⟩)
   | (go_at_call 242;((with_reducible refine(cU _).mono ?_);rintro e w' ⟨rfl,rfl⟩))
   | (go_at_call 242;((with_reducible refine(cI _).mono ?_);rintro e w' ⟨rfl,rfl⟩)))
  go_ret3;exact⟨rfl,rfl⟩
theorem aIt (s:ByteArray)(m:Nat)(x:Int)(neg tr:Bool)(w:World)(T:aA w)(SP:aAm s)(RD:wO s m x neg tr)(hm:m≠0)(hx:x < -345) :
  Calls Tryz.prog 205 #[.string s] w fun e w'=>e=.returned (.tuple #[.float .f64 (sgn neg+0),.int .i64 s.size,.nilIface])∧w=w':=by
 have h3:=T.opt;have d1:=lN;have hm0:((m:Int)==0)=false:=beq_eq_false_iff_ne.2 (by omega);have HSP:=hid SP;have HRD:=hid RD;clear SP RD T;cases neg;all_goals
  go_enter Tryz.func205,Tryz.ntmps205
  go_wp2_with (first
   | (go_at_call 233;refine(HSP.out _).mono ?_;rintro e w' ⟨rfl,rfl⟩)
   | (go_at_call 234;refine(HRD.out _).mono ?_;rintro e w' ⟨rfl,rfl⟩)
   | (go_at_call 242;((with_reducible refine(cU _).mono ?_);rintro e w' ⟨rfl,rfl⟩))
   | (go_at_call 242;((with_reducible refine(cI _).mono ?_);rintro e w' ⟨rfl,rfl⟩)))
  go_ret3;exact⟨rfl,rfl⟩
theorem aIs (s:ByteArray)(m:Nat)(x:Int)(neg:Bool)(r:Nat)(v:Value)(w:World)(T:aA w)(SP:aAm s)(RD:wO s m x neg false)(hm:m≠0)(x1:-345≤x)(x2:x≤310)
  (EX:∀w,aA w→Calls Tryz.prog 244 #[.int .u64 m,.int .i64 x,.bool neg] w (nC w))
  (PF:∀w,aA w→Calls Tryz.prog 245 #[.int .u64 m,.int .i64 x,.int .u64 (sgn neg)] w fun e' w'=>e'=.returned (.tuple #[.float .f64 r,v])∧Below w.heap.size w w') :
  Calls Tryz.prog 205 #[.string s] w fun e w'=>e=.returned (.tuple #[.float .f64 r,.int .i64 s.size,v])∧Below w.heap.size w w':=by
 have h3:=T.opt;have hm0:((m:Int)==0)=false:=beq_eq_false_iff_ne.2 (by omega);have HSP:=hid SP;have HRD:=hid RD;have HEX:=hid EX;have HPF:=hid PF;have HT:=hid T;clear SP RD EX PF T;cases neg;all_goals
  go_enter Tryz.func205,Tryz.ntmps205
  go_wp2_with (first
   | (go_at_call 233;refine(HSP.out _).mono ?_;rintro e w' ⟨rfl,rfl⟩)
   | (go_at_call 234;refine(HRD.out _).mono ?_;rintro e w' ⟨rfl,rfl⟩)
   | (go_at_call 242;((with_reducible refine(cU _).mono ?_);rintro e w' ⟨rfl,rfl⟩))
   | (go_at_call 242;((with_reducible refine(cI _).mono ?_);rintro e w' ⟨rfl,rfl⟩)))
  refine(HEX.out _ HT.out).mono ?_;rintro e w1 ⟨f,rfl,rfl⟩;go_wp2_with fail
  refine(HPF.out _ HT.out).mono ?_;rintro e w2 ⟨rfl,B2⟩;have HB2:=hid B2;clear B2;go_wp2
  go_ret3;exact⟨rfl,HB2.out⟩
theorem aIq (s:ByteArray)(m:Nat)(x:Int)(neg:Bool)(r r2:Nat)(v v2:Value)(w:World)(T:aA w)(SP:aAm s)(RD:wO s m x neg true)(hm:m≠0)(hm2:m+1<18446744073709551616)(x1:-345≤x)(x2:x≤310)
  (PF:∀w,aA w→Calls Tryz.prog 245 #[.int .u64 m,.int .i64 x,.int .u64 (sgn neg)] w fun e' w'=>e'=.returned (.tuple #[.float .f64 r,v])∧Below w.heap.size w w')
  (PG:∀w,aA w→Calls Tryz.prog 245 #[.int .u64 (m+1:Nat),.int .i64 x,.int .u64 (sgn neg)] w fun e' w'=>e'=.returned (.tuple #[.float .f64 r2,v2])∧Below w.heap.size w w')
  (hq:(FloatKind.f64.format.order r r2==some .eq)=true) :
  Calls Tryz.prog 205 #[.string s] w fun e w'=>e=.returned (.tuple #[.float .f64 r,.int .i64 s.size,v])∧Below w.heap.size w w':=by
 have h3:=T.opt;have hm0:((m:Int)==0)=false:=beq_eq_false_iff_ne.2 (by omega);have HSP:=hid SP;have HRD:=hid RD;have HPF:=hid PF;have HPG:=hid PG;have HT:=hid T;clear SP RD PF PG T;cases neg;all_goals
  go_enter Tryz.func205,Tryz.ntmps205
  go_wp2_with (first
   | (go_at_call 233;refine(HSP.out _).mono ?_;rintro e w' ⟨rfl,rfl⟩)
   | (go_at_call 234;refine(HRD.out _).mono ?_;rintro e w' ⟨rfl,rfl⟩)
   | (go_at_call 242;((with_reducible refine(cU _).mono ?_);rintro e w' ⟨rfl,rfl⟩))
   | (go_at_call 242;((with_reducible refine(cI _).mono ?_);rintro e w' ⟨rfl,rfl⟩)))
  refine(HPF.out _ HT.out).mono ?_;rintro e w2 ⟨rfl,B2⟩;have HB2:=hid B2;have HT2:=hid (HT.out.below B2 aBs);clear B2;go_wp2_with fail
  refine(HPG.out _ HT2.out).mono ?_;rintro e w3 ⟨rfl,B3⟩;have HB3:=hid (HB2.out.trans (B3.mono HB2.out.size));clear B3;go_wp2
  go_ret3;exact⟨rfl,HB3.out⟩
open Go.RowKit
def aCc:Dec.Dc:=⟨List.replicate 800 0,0,0,false,false⟩
theorem aLg:aCc.D.length=800:=List.length_replicate
def zP:Array Value:=(kP aCc).toArray
theorem aKT (m:Nat)(h:m<18446744073709551616):bits .and .u64 (m:Int) 4503599627370495=((m%4503599627370496:Nat):Int):=by
 have:=u64_and_nat m 4503599627370495 h (by omega);rw[show(4503599627370495:Nat)=2^52-1 from rfl,Nat.and_two_pow_sub_one_eq_mod]at this
 exact this
theorem aBA (m x:Nat)(neg:Bool)(hm:m<18446744073709551616)(hx:x<2048):jT m x neg=((sgn neg+(x*4503599627370496+m%4503599627370496):Nat):Int):=by
 have a1:=aKT m hm;have a2:bits .and .i64 (x:Int) 2047=x:=uA x (by omega);have a3:IntKind.u64.wrap (IntKind.u64.wrap (x:Int)*4503599627370496)=((x*4503599627370496:Nat):Int):=by
  rw[cW,cW];omega
 have hf:m%4503599627370496<4503599627370496:=Nat.mod_lt _ (by decide);have a4:bits .or .u64 ((m%4503599627370496:Nat):Int) ((x*4503599627370496:Nat):Int)=((x*4503599627370496+m%4503599627370496:Nat):Int):=by
  have:=(aJE 0 (m%4503599627370496) x (.inl rfl) hf).resolve_right (by omega);rw[Nat.zero_add,Nat.zero_add]at this
  exact this
 unfold jT;rw[a1,a2,a3,a4];cases neg
 ·rw[if_neg (by decide)];simp[sgn]
 ·rw[if_pos rfl];have:=pG 9223372036854775808 (x*4503599627370496+m%4503599627370496) (.inr rfl) (by omega);rw[show bits .or .u64 ((x*4503599627370496+m%4503599627370496:Nat):Int) 9223372036854775808=bits .or .u64 ((9223372036854775808:Nat):Int) ((x*4503599627370496+m%4503599627370496:Nat):Int)from ?_,this]
  ·simp[sgn]
  ·have e1:=u64_or_nat (x*4503599627370496+m%4503599627370496) 9223372036854775808 (by omega) (by omega);have e2:=u64_or_nat 9223372036854775808 (x*4503599627370496+m%4503599627370496) (by omega) (by omega);rw[Nat.or_comm]at e1
   exact e1.trans e2.symm
theorem aMe (s:Dec.Dc):qP s<18446744073709551616:=by
 unfold qP;split
 ·omega
 ·split
  ·exact Nat.mod_lt _ (by decide)
  ·exact zB _ _
theorem aGF (m:Nat)(E:Int)(neg:Bool)(hm:m<18446744073709551616)(h1:-1022≤E)(h2:E+1023<2047):∃b,b<aJ∧tM m E neg=(((sgn neg+b:Nat):Int),false):=by
 obtain⟨x,hx,hxe⟩:∃x:Nat,x<2047∧(if bits .and .u64 (m:Int) 4503599627370496==0 then 0 else E+1023)=(x:Int):=by
  split
  ·exact⟨0,by omega,rfl⟩
  ·exact⟨(E+1023).toNat,by omega,by omega⟩
 unfold tM;rw[hxe,aBA m x neg hm (by omega)];exact⟨_,by unfold aJ;omega,rfl⟩
theorem aAF (neg:Bool):jT 0 2047 neg=((sgn neg+aJ:Nat):Int):=aBA 0 2047 neg (by decide) (by decide)
theorem aOa (s:Dec.Dc)(E:Int)(neg:Bool)(h1:-1022≤E):(∃b,b<aJ∧aAE s E neg=(((sgn neg+b:Nat):Int),false))∨aAE s E neg=(((sgn neg+aJ:Nat):Int),true):=by
 unfold aAE;split
 ·exact .inr (by rw[aAF])
 ·split
  ·split
   ·exact .inr (by rw[aAF])
   ·exact .inl (aGF _ _ _ (by omega) (by omega) (by omega))
  ·exact .inl (aGF _ _ _ (aMe _) h1 (by omega))
theorem aQk (s:Dec.Dc)(E:Int):-1022≤(upS s E).2:=by
 unfold upS;split
 ·exact Int.le_refl _
 ·omega
theorem aPD (r1 r2:Nat)(s:Dec.Dc):(∃b,b<aJ∧fbF r1 r2 s=(((sgn s.neg+b:Nat):Int),false))∨fbF r1 r2 s=(((sgn s.neg+aJ:Nat):Int),true):=aOa _ _ _ (aQk _ _)
theorem aA.slow {w:World}(T:aA w)(o:Obj):nR (w.alloc o) w.heap.size:=by
 have hc:∀a v,w.cell? a=some v→(w.alloc o).cell? a=some v∧a.block≠w.heap.size:=fun a v hv=>by
  have:=World.block_lt_of_cell? w _ hv;exact⟨by rw[((Below.refl w.heap.size w).alloc aBs o).cell this,hv],by omega⟩
 obtain⟨b,oo,h1,h2⟩:=T.cheats;obtain⟨b2,o2,h3,h4⟩:=T.p2;refine⟨⟨b,oo,(hc _ _ (h2 0 (by omega)).1).2,(hc _ _ h1).1,fun i hi=>?_⟩,⟨b2,o2,(hc _ _ (h4 0 (by omega))).2,(hc _ _ h3).1,fun i hi=>(hc _ _ (h4 i hi)).1⟩,(hc _ _ T.info0).1,(hc _ _ T.info1).1,(hc _ _ T.info2).1,?_⟩
 ·have:=h2 i hi;rw[show i*2=2*i by omega,show oo+2*i+1=oo+(2*i+1) by omega];exact⟨(hc _ _ this.1).1,(hc _ _ this.2).1⟩
 ·have:=T.size;omega
theorem aNp (w:World):aC (w.alloc (.cells zP 234)) w.heap.size aCc:=⟨heap_alloc_new w _,aLg⟩
theorem aFu:Tryz.zeroCells234=zP:=by kernel_rfl
theorem aKY (s:ByteArray)(m:Nat)(x:Int)(neg:Bool)(r r2:Nat)(v v2:Value)(w:World)(T:aA w)(SP:aAm s)(RD:wO s m x neg true)(hm:m≠0)(hm2:m+1<18446744073709551616)(x1:-345≤x)(x2:x≤310)(_hs:s.size≤40)
  (PF:∀w,aA w→Calls Tryz.prog 245 #[.int .u64 m,.int .i64 x,.int .u64 (sgn neg)] w fun e' w'=>e'=.returned (.tuple #[.float .f64 r,v])∧Below w.heap.size w w')
  (PG:∀w,aA w→Calls Tryz.prog 245 #[.int .u64 (m+1:Nat),.int .i64 x,.int .u64 (sgn neg)] w fun e' w'=>e'=.returned (.tuple #[.float .f64 r2,v2])∧Below w.heap.size w w')
  (hq:(FloatKind.f64.format.order r r2==some .eq)=false) (D:Dec.Dc) (z:Int) (ov:Bool)
  (SF:∀w B,aC w B aCc→Calls Tryz.prog 240 #[.pointer (some ⟨B,0,none⟩),.string s] w fun e w'=>e=.returned (.bool true)∧aC w' B D∧aD (· = B) w w')
  (FB:∀w B,nR w B→aC w B D→Calls Tryz.prog 241 #[.pointer (some ⟨B,0,none⟩),.pointer (some ⟨8,0,none⟩)] w (wK B (z,ov) w)) :
  Calls Tryz.prog 205 #[.string s] w fun e w'=>e=.returned (.tuple #[.float .f64 z.toNat,.int .i64 s.size,if ov then .iface 158 (.int .i64 1)else .nilIface])∧Below w.heap.size w w':=by
 have h3:=T.opt;have d1:=lN;have hm0:((m:Int)==0)=false:=beq_eq_false_iff_ne.2 (by omega);have HSP:=hid SP;have HRD:=hid RD;have HPF:=hid PF;have HPG:=hid PG;have HSF:=hid SF;have HFB:=hid FB;have HT:=hid T;clear SP RD PF PG SF FB T;cases neg;all_goals
  go_enter Tryz.func205,Tryz.ntmps205
  go_wp2_with (first
   | (go_at_call 233;refine(HSP.out _).mono ?_;rintro e w' ⟨rfl,rfl⟩)
   | (go_at_call 234;refine(HRD.out _).mono ?_;rintro e w' ⟨rfl,rfl⟩)
   | (go_at_call 242;((with_reducible refine(cU _).mono ?_);rintro e w' ⟨rfl,rfl⟩))
   | (go_at_call 242;((with_reducible refine(cI _).mono ?_);rintro e w' ⟨rfl,rfl⟩)))
  refine(HPF.out _ HT.out).mono ?_;rintro e w2 ⟨rfl,B2⟩;have HB2:=hid B2;have HT2:=hid (HT.out.below B2 aBs);clear B2;go_wp2_with fail
  refine(HPG.out _ HT2.out).mono ?_;rintro e w3 ⟨rfl,B3⟩;have HB3:=hid (HB2.out.trans (B3.mono HB2.out.size));have HT3:=hid (HT2.out.below B3 aBs);clear B3;go_wp2_with fail
  rw[aFu];have D0:=aNp w3;have S0:=HT3.out.slow (.cells zP 234);obtain⟨W,hW⟩:∃W,w3.alloc (.cells zP 234)=W:=⟨_,rfl⟩
  have bW:Below w.heap.size w W:=by rw[←hW];exact HB3.out.alloc HB3.out.size _
  obtain⟨B,hB⟩:∃B,w3.heap.size=B:=⟨_,rfl⟩
  have hle:w.heap.size≤B:=by rw[←hB];exact HB3.out.size
  rw[hW,hB]at D0 S0
  rw[hW,hB];clear hW hB;refine(HSF.out _ _ D0).mono ?_;rintro e w4 ⟨rfl,D4,K4⟩;have S4:=S0.kept K4;have HD4:=hid D4;have HS4:=hid S4;have HK4:=hid K4;have HBW:=hid bW;clear D4 S4 K4 D0 S0 bW;go_wp2_with fail
  refine(HFB.out _ _ HS4.out HD4.out).mono ?_;rintro e w5 ⟨rfl,K5⟩;have HB5:Hid (Below w.heap.size w w5):=HBW.out.trans ((HK4.out.trans K5).below HBW.out.size (fun k _ e=>by omega));clear K5;cases ov
  ·go_wp2
   go_ret3;exact⟨rfl,HB5.out⟩
  ·go_wp2
   go_ret3;exact⟨rfl,HB5.out⟩
end Go.Proofs.YtcfgbdhpcboikaaGreatDoor
