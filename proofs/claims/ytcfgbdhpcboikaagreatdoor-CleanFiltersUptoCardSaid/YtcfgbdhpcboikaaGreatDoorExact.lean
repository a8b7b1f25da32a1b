/-
internal/strconv.atof64exact: the exact ways.
-/
import Derived.Test.YtcfgbdhpcboikaaGreatDoorNumD
import Derived.Handy
namespace Go.Proofs.YtcfgbdhpcboikaaGreatDoor
set_option maxHeartbeats 4000000
set_option maxRecDepth 100000
open Go.RowKit
def cU (neg:Bool)(m:Nat):Nat:=if neg then Op.negFloat .f64 (floatOfInt .f64 m)else floatOfInt .f64 m
theorem iY (m:Nat)(a:m<4503599627370496):((m:Int) / 4503599627370496 !=0)=false:=by
 have:(m:Int) / 4503599627370496=0:=by{omega};rw[this];rfl
theorem aGq (m:Nat)(a:4503599627370496<=m):((m:Int) / 4503599627370496 !=0)=true:=by
 have:¬(m:Int) / 4503599627370496=0:=by{omega};simp[this]
theorem gG (b:Nat):Op.unary .neg (.float .f64 b)=pure (.float .f64 (Op.negFloat .f64 b)):=by unfold Op.unary;rfl
theorem aCs (m:Nat):cU false m=floatOfInt .f64 m:=by
 unfold cU;rw[ae (by decide)]
theorem aCr (m:Nat):cU true m=Op.negFloat .f64 (floatOfInt .f64 m):=by
 unfold cU;rw[af rfl]
theorem jJ (neg:Bool)(m:Nat):∃a f:Nat,cU neg m=f/\floatOfInt .f64 m=a/\((neg=false/\f=a)\/(neg=true/\Op.negFloat .f64 a=f)):=by
 cases neg;{refine⟨_,_,aCs m,rfl,.inl ⟨rfl,rfl⟩⟩};{refine⟨_,_,aCr m,rfl,.inr ⟨rfl,rfl⟩⟩}
theorem aJp (m:Nat)(neg:Bool)(w:H)(T:aA w)(b:m<4503599627370496) :
  Y 244 #[.int .u64 m,.int .i64 0,.bool neg] w fun e w'=>e=.returned (.tuple #[.float .f64 (cU neg m),.bool true])/\w=w':=by
 have h:=T.info0;have i:=iY m b;have un:=gG;obtain⟨c,f,a,d,⟨rfl,rfl⟩|⟨rfl,g⟩⟩:=jJ neg m
 ·rw[a];clear a T;go_enter Tryz.func244,Tryz.ntmps244
  go_wp2
  go_ret2;exact⟨rfl,rfl⟩
 ·rw[a];clear a T;go_enter Tryz.func244,Tryz.ntmps244
  go_wp2
  go_ret2;exact⟨rfl,rfl⟩
def nO (w:H)(e:Ending)(w':H):Prop:=∃f,e=.returned (.tuple #[.float .f64 f,.bool false])/\w=w'
theorem aGg (m:Nat)(p:Int)(neg:Bool)(w:H)(T:aA w)(a:4503599627370496<=m) :
  Y 244 #[.int .u64 m,.int .i64 p,.bool neg] w (nO w):=by
 have b:=T.info0;have c:=aGq m a;go_enter Tryz.func244,Tryz.ntmps244;go_wp2;go_ret2;exact⟨_,rfl,rfl⟩
theorem aJo (m:Nat)(p:Int)(neg:Bool)(w:H)(T:aA w)(b:m<4503599627370496)(a:p < -22\/37<p) :
  Y 244 #[.int .u64 m,.int .i64 p,.bool neg] w (nO w):=by
 have d:=T.info0;have e:=iY m b;have un:=gG;have c:(p==0)=false:=by{simp;omega};rcases a with a|a
 all_goals
  cases neg;all_goals
   go_enter Tryz.func244,Tryz.ntmps244
   go_wp2
   go_ret2;exact⟨_,rfl,rfl⟩
theorem aJq (m p:Nat)(neg:Bool)(r:Nat)(w:H)(T:aA w)(i:m<4503599627370496)(p1:1<=p)(p2:p<=22)
  (d:(FloatKind.f64.format.order (cU neg m) 4831355200913801216==some .gt)=false) (g:(FloatKind.f64.format.order (cU neg m) 14054727237768577024==some .lt)=false)
  (hr:floatBits .mul .f64 (cU neg m) (gC.getD p 0)=some r) :
  Y 244 #[.int .u64 m,.int .i64 p,.bool neg] w fun e w'=>e=.returned (.tuple #[.float .f64 r,.bool true])/\w=w':=by
 have s:=T.info0;obtain⟨b,o,q,h⟩:=T.f10;have j:=h p (by omega);have u:=iY m i;have un:=gG;have c:∀w,(binOp .mul 25 (.float .f64 (cU neg m)) (.float .f64 (gC.getD p 0))).run Tryz.prog w=.ok (.float .f64 r) w:=fun w=>ni w .mul 24 .f64 _ _ _ hr
 have t:((p:Int)==0)=false:=by simp;omega
 clear h hr i T;generalize gC.getD p 0=z at j c;obtain⟨k,f,a,l,⟨rfl,rfl⟩|⟨rfl,n⟩⟩:=jJ neg m
 ·rw[a]at d g c
  clear a;go_enter Tryz.func244,Tryz.ntmps244
  go_wp2
  go_ret2;exact⟨rfl,rfl⟩
 ·rw[a]at d g c
  clear a;go_enter Tryz.func244,Tryz.ntmps244
  go_wp2
  go_ret2;exact⟨rfl,rfl⟩
theorem aBH (m p:Nat)(neg:Bool)(w:H)(T:aA w)(b:m<4503599627370496)(p1:1<=p)(p2:p<=22)
  (g:(FloatKind.f64.format.order (cU neg m) 4831355200913801216==some .gt)=true\/((FloatKind.f64.format.order (cU neg m) 4831355200913801216==some .gt)=false/\(FloatKind.f64.format.order (cU neg m) 14054727237768577024==some .lt)=true)) :
  Y 244 #[.int .u64 m,.int .i64 p,.bool neg] w (nO w):=by
 have j:=T.info0;have l:=iY m b;have un:=gG;have k:((p:Int)==0)=false:=by simp;omega
 clear b T;obtain⟨d,f,a,h,⟨rfl,rfl⟩|⟨rfl,i⟩⟩:=jJ neg m;all_goals
  rw[a]at g
  clear a;rcases g with c|⟨c,e⟩
  all_goals
   go_enter Tryz.func244,Tryz.ntmps244
   go_wp2
   go_ret2;exact⟨_,rfl,rfl⟩
theorem aJn (m p:Nat)(neg:Bool)(r:Nat)(w:H)(T:aA w)(d:m<4503599627370496)(p1:1<=p)(p2:p<=22)
  (hr:floatBits .quo .f64 (cU neg m) (gC.getD p 0)=some r) :
  Y 244 #[.int .u64 m,.int .i64 (-(p:Int)),.bool neg] w fun e w'=>e=.returned (.tuple #[.float .f64 r,.bool true])/\w=w':=by
 have n:=T.info0;obtain⟨b,o,l,a⟩:=T.f10;have h:=a p (by omega);have s:=iY m d;have un:=gG;have g:∀w,(binOp .quo 25 (.float .f64 (cU neg m)) (.float .f64 (gC.getD p 0))).run Tryz.prog w=.ok (.float .f64 r) w:=fun w=>ni w .quo 24 .f64 _ _ _ hr
 have q:(-(p:Int)==0)=false:=by simp;omega
 clear a hr d T;generalize gC.getD p 0=z at h g;obtain⟨i,f,c,j,⟨rfl,rfl⟩|⟨rfl,k⟩⟩:=jJ neg m;all_goals
  rw[c]at g
  clear c;go_enter Tryz.func244,Tryz.ntmps244
  go_wp2
  go_ret2;exact⟨rfl,rfl⟩
theorem aHL (m p q:Nat)(neg:Bool)(a r:Nat)(w:H)(T:aA w)(g:m<4503599627370496)(p1:22<p)(p2:p<=37)(hq:q+22=p)
  (i:floatBits .mul .f64 (cU neg m) (gC.getD q 0)=some a)
  (s:(FloatKind.f64.format.order a 4831355200913801216==some .gt)=false) (t:(FloatKind.f64.format.order a 14054727237768577024==some .lt)=false)
  (hr:floatBits .mul .f64 a (gC.getD 22 0)=some r) :
  Y 244 #[.int .u64 m,.int .i64 p,.bool neg] w fun e w'=>e=.returned (.tuple #[.float .f64 r,.bool true])/\w=w':=by
 have y:=T.info0;obtain⟨b,o,x,c⟩:=T.f10;have k:=c q (by omega);have j:=c 22 (by omega);have B:=iY m g;have un:=gG;have h:∀w,(binOp .mul 25 (.float .f64 (cU neg m)) (.float .f64 (gC.getD q 0))).run Tryz.prog w=.ok (.float .f64 a) w:=fun w=>ni w .mul 24 .f64 _ _ _ i
 have l:∀w,(binOp .mul 25 (.float .f64 a) (.float .f64 (gC.getD 22 0))).run Tryz.prog w=.ok (.float .f64 r) w:=fun w=>ni w .mul 24 .f64 _ _ _ hr
 have A:((p:Int)==0)=false:=by simp;omega
 clear c hr i g T;generalize gC.getD q 0=z at k h;generalize gC.getD 22 0=z2 at j l;subst hq;obtain⟨n,f,d,u,⟨rfl,rfl⟩|⟨rfl,v⟩⟩:=jJ neg m;all_goals
  rw[d]at h
  clear d;go_enter Tryz.func244,Tryz.ntmps244
  go_wp2
  go_ret2;exact⟨rfl,rfl⟩
theorem uE (m p q:Nat)(neg:Bool)(a:Nat)(w:H)(T:aA w)(e:m<4503599627370496)(p1:22<p)(p2:p<=37)(hq:q+22=p)
  (i:floatBits .mul .f64 (cU neg m) (gC.getD q 0)=some a)
  (g:(FloatKind.f64.format.order a 4831355200913801216==some .gt)=true\/((FloatKind.f64.format.order a 4831355200913801216==some .gt)=false/\(FloatKind.f64.format.order a 14054727237768577024==some .lt)=true)) :
  Y 244 #[.int .u64 m,.int .i64 p,.bool neg] w (nO w):=by
 have u:=T.info0;obtain⟨b,o,t,c⟩:=T.f10;have k:=c q (by omega);have x:=iY m e;have un:=gG;have h:∀w,(binOp .mul 25 (.float .f64 (cU neg m)) (.float .f64 (gC.getD q 0))).run Tryz.prog w=.ok (.float .f64 a) w:=fun w=>ni w .mul 24 .f64 _ _ _ i;have v:((p:Int)==0)=false:=by simp;omega
 clear c i e T;generalize gC.getD q 0=z at k h;subst hq;obtain⟨l,f,d,r,⟨rfl,rfl⟩|⟨rfl,s⟩⟩:=jJ neg m;all_goals
  rw[d]at h
  clear d;rcases g with j|⟨j,n⟩
  all_goals
   go_enter Tryz.func244,Tryz.ntmps244
   go_wp2
   go_ret2;exact⟨_,rfl,rfl⟩
open Go.RowKit
theorem gX {α : Type}{P:List α -> Prop}(h0:P [])(h1:∀l a,P l->P (l++[a]))(l:List α):P l:=by
 rw[<-rt l];generalize l.reverse=r;induction r with|nil=>exact h0|cons a r ih=>{rw[pf];exact h1 _ _ ih}
structure RS where
 mant:Nat
 nd:Nat
 ndM:Nat
 dp:Int
 dot:Bool
 dig:Bool
 trunc:Bool
deriving DecidableEq
def rs0:RS:=⟨0,0,0,0,false,false,false⟩
def dJ (r:RS)(c:UInt8):RS :=
 if c=46 then { r with dot:=true,dp:=r.nd }
 else if c=48/\r.nd=0 then { r with dig:=true,dp:=r.dp-1 }
 else if r.ndM<19 then { r with dig:=true,nd:=r.nd+1,mant:=r.mant*10+(c.toNat-48),ndM:=r.ndM+1 }
 else { r with dig:=true,nd:=r.nd+1,trunc:=r.trunc||c !=48 }
def aO (l:U):RS:=l.foldl dJ rs0
theorem dG (l:U)(c:UInt8):aO (l++[c])=dJ (aO l) c:=by simp[aO]
def cR (c:UInt8):Bool:=aE c||c==46
structure RB (r:RS) (k:Nat):Prop where
 nd:r.nd<=k
 ndM:r.ndM=min r.nd 19
 mant:r.mant<10^r.ndM
 lo:-(k:Int)<=r.dp
 hi:r.dp<=k
theorem eE (c:UInt8)(h:aE c=true):48<=c.toNat/\c.toNat<=57:=by simpa [aE]using h
theorem aOO {r:RS}{k:Nat}{c:UInt8}(h:RB r k)(e:cR c=true):RB (dJ r c) (k+1):=by
 obtain⟨f,b,a,g,i⟩:=h;unfold dJ;split;{exact⟨by show r.nd<=_;omega,b,a,by show _<=((r.nd:Nat):Int);omega,by show((r.nd:Nat):Int)<=_;omega⟩};{rename_i d;have hd:aE c=true:=by{simpa [cR,d]using e};have j:=eE c hd;split;{exact⟨by show r.nd<=_;omega,b,a,by show _<=r.dp-1;omega,by show r.dp-1<=_;omega⟩};{split;{refine⟨by show r.nd+1<=_;omega,by show r.ndM+1=min (r.nd+1) 19;omega,?_,by show _<=r.dp;omega,by show r.dp<=_;omega⟩;show r.mant*10+(c.toNat-48)<10^(r.ndM+1);rw[bz];omega};{exact⟨by show r.nd+1<=_;omega,by show r.ndM=min (r.nd+1) 19;omega,a,by show _<=r.dp;omega,by show r.dp<=_;omega⟩}}}
theorem vB (l:U)(h:∀c∈l,cR c=true):RB (aO l) l.length:=by
 induction l using gX with|h0=>{exact⟨ah _,rfl,by show 0<1;omega,ig _,ig _⟩}|h1 l c ih=>{rw[dG,ax];exact aOO (ih (fun x hx=>h x (by simp[hx]))) (h c (by simp))}
theorem aNs (n:Nat)(h:n<=19):10^n<=10000000000000000000:=bg (b8 (by omega) h) (by decide)
theorem aNr (n:Nat)(h:n<=18):10^n<=1000000000000000000:=bg (b8 (by omega) h) (by decide)
def eI (e:Nat)(c:UInt8):Nat:=if e<10000 then e*10+(c.toNat-48)else e
def bX (l:U):Nat:=l.foldl eI 0
theorem iN (l:U)(c:UInt8):bX (l++[c])=eI (bX l) c:=by simp[bX]
theorem aLM (l:U)(h:∀c∈l,aE c=true):bX l<=100000:=by
 induction l using gX with|h0=>{show 0<=_;omega}|h1 l c ih=>{have h1:=ih (fun x hx=>h x (by simp[hx]));have a:=eE c (h c (by simp));rw[iN];unfold eI;split<;>omega}
def aM (s:I)(p j:Nat):U:=(s.data.toList.drop p).take (j-p)
theorem gH (s:I)(p:Nat):aM s p p=[]:=by simp[aM]
theorem iP (s:I)(p j:Nat)(a:p<=j)(b:j<s.size):aM s p (j+1)=aM s p j++[s[j]]:=by
 unfold aM;rw[Nat.succ_sub a,fl (by rw[bm,<-aS];omega)];congr 2;rw[l7];have e:p+(j-p)=j:=by{omega};simp only[e];rfl
theorem lG (s:I)(p j:Nat)(b:p<=j)(a:j<=s.size):(aM s p j).length=j-p:=by
 unfold aM;rw[bu,bm,<-aS];omega
open Go.RowKit
theorem aOq (c:UInt8)(h:cR c=true\/c=101\/c=69):(bits .or .u8 (c.toNat:Int) 32==120)=false:=by
 have a:∀n:Fin 256,(cR (UInt8.ofNat n.val)=true\/UInt8.ofNat n.val=101\/UInt8.ofNat n.val=69)->(bits .or .u8 ((UInt8.ofNat n.val).toNat:Int) 32==120)=false:=by{decide +kernel};have:=a ⟨c.toNat,c.toNat_lt⟩;simp only[UInt8.ofNat_toNat]at this;exact this h
theorem aNp (c:UInt8)(h:c=101\/c=69):(bits .or .u8 (c.toNat:Int) 32==101)=true:=by
 rcases h with rfl|rfl<;>decide +kernel
theorem aA3 (c:Int)(w:H):Y 251 #[.int .u8 c] w fun e w'=>e=.returned (.int .u8 (bits .or .u8 c 32))/\w=w' :=
 (Tryz.internal_strconv_lower c w).mono fun _ _ ⟨a,b⟩=>⟨a,b.symm⟩
structure nP (s:I) (p0 q:Nat):Prop where
 lt:p0<q
 le:q<=s.size
 ch:∀j (h:j<s.size),p0<=j->j<q->cR s[j]=true
 dots:∀j (h:j<s.size),p0<=j->j<q->s[j]=46->(aO (aM s p0 j)).dot=false
 dig:(aO (aM s p0 q)).dig=true
 stop:∀(h:q<s.size),s[q]=101\/s[q]=69
def xU (s:I)(neg:Bool)(p0:Nat):Prop :=
 ∃h:0<s.size,(neg=false/\p0=0/\((s[0].toNat:Int)==43)=false/\((s[0].toNat:Int)==45)=false)\/(neg=true/\p0=1/\((s[0].toNat:Int)==43)=false/\((s[0].toNat:Int)==45)=true)
def aGR (s:I)(p0 q:Nat)(mant trunc i us dot dig nd ndM dp:Value):Prop :=
 ∃(j:Nat) (r:RS),p0<=j/\j<=q/\aO (aM s p0 j)=r/\mant=.int .u64 r.mant/\trunc=.bool r.trunc/\i=.int .i64 j/\us=.bool false/\dot=.bool r.dot/\dig=.bool r.dig/\nd=.int .i64 r.nd/\ndM=.int .i64 r.ndM/\dp=.int .i64 r.dp
def aNz (s:I)(p0 q:Nat)(mant trunc i us dot dig nd ndM dp:Value):Prop :=
 ∃(r:RS),aO (aM s p0 q)=r/\mant=.int .u64 r.mant/\trunc=.bool r.trunc/\i=.int .i64 q/\us=.bool false/\dot=.bool r.dot/\dig=.bool r.dig/\nd=.int .i64 r.nd/\ndM=.int .i64 r.ndM/\dp=.int .i64 r.dp
def aBs (s:I)(q:Nat)(ev:Int):Prop :=
 (q=s.size/\ev=0)\/∃(h:q+1<s.size) (t:Nat) (es:Int),((t=q+1/\es=1/\aE s[q+1]=true)\/(t=q+2/\es=1/\s[q+1]=43)\/(t=q+2/\es=-1/\s[q+1]=45)) /\
  t<s.size/\(∀j (h:j<s.size),t<=j->aE s[j]=true)/\ev=(bX (aM s t s.size):Nat)*es
def RS.place (r:RS):Int:=if r.dot=true then r.dp else r.nd
def RS.expo (r:RS)(ev:Int):Int:=if r.mant=0 then 0 else r.place+ev-r.ndM
theorem aFx (s:I)(t j:Nat)(b:t<=j)(a:j<=s.size)(h:∀j (h:j<s.size),t<=j->aE s[j]=true):∀c∈aM s t j,aE c=true:=by
 intro c d;obtain⟨i,hi,rfl⟩:=ul d;rw[lG s t j b a]at hi;have:(aM s t j)[i]'(by rw[lG s t j b a];exact hi)=s[t+i]'(by omega):=by{unfold aM;rw[ru,l7];rfl};rw[this];exact h (t+i) (by omega) (by omega)
theorem nH (s:I)(t j:Nat)(b:t<=j)(a:j<=s.size)(h:∀j (h:j<s.size),t<=j->aE s[j]=true):bX (aM s t j)<=100000 :=
 aLM _ (aFx s t j b a h)
theorem wJ (s:I)(a q:Nat)(N:nP s a q)(j:Nat)(b:a<=j)(e:j<=q):∀c∈aM s a j,cR c=true:=by
 intro c d;have f:=N.le;obtain⟨i,hi,rfl⟩:=ul d;rw[lG s a j b (by omega)]at hi;have:(aM s a j)[i]'(by rw[lG s a j b (by omega)];exact hi)=s[a+i]'(by omega):=by{unfold aM;rw[ru,l7];rfl};rw[this];exact N.ch (a+i) (by omega) (by omega) (by omega)
theorem aCd (s:I)(a q:Nat)(N:nP s a q)(j:Nat)(c:a<=j)(b:j<=q):RB (aO (aM s a j)) (j-a):=by
 have:=vB (aM s a j) (wJ s a q N j c b);rwa[lG s a j c (bg b N.le)]at this
open Go.RowKit
theorem aKh (s p:I)(w:H)(h:0<s.size)(i:s.size<=40)(f:0<p.size)(g:p.size<=40)(a:s[0].toNat<=57)(hq:97<=p[0].toNat) :
  Y 269 #[.string s,.string p] w fun e w'=>e=.returned (.int .i64 0)/\w=w':=by
 have b:¬ 65<=s[0].toNat:=by omega
 have c:((s[0].toNat:Int) !=(p[0].toNat:Int))=true:=by simp;omega
 by_cases d:p.size<=s.size
 all_goals
  go_enter Tryz.func269,Tryz.ntmps269
  go_wp2
  refine rv 1 ?_;rw[rx];go_wp2
  go_ret;exact⟨rfl,rfl⟩
theorem qQ (s:I)(w:H)(h:0<s.size)(k:s.size<=40)(g:s[0].toNat<=57)(i:((s[0].toNat:Int)==43)=false)(j:((s[0].toNat:Int)==45)=false) :
  Y 233 #[.string s] w fun e w'=>e=.returned (.tuple #[.float .f64 0,.int .i64 0,.bool false])/\w=w':=by
 have b:((s[0].toNat:Int)==105)=false:=by simp;omega
 have c:((s[0].toNat:Int)==73)=false:=by simp;omega
 have d:((s[0].toNat:Int)==110)=false:=by simp;omega
 have f:((s[0].toNat:Int)==78)=false:=by simp;omega
 have a:((s.size:Int)==0)=false:=ai.2 (by omega);go_enter Tryz.func233,Tryz.ntmps233
 go_wp2
 go_ret3;exact⟨rfl,rfl⟩
theorem xF (s:I)(w:H)(h:1<s.size)(r:s.size<=40)(p:((s[0].toNat:Int)==43)=false)(q:((s[0].toNat:Int)==45)=true)(k:s[1].toNat<=57) :
  Y 233 #[.string s] w fun e w'=>e=.returned (.tuple #[.float .f64 0,.int .i64 0,.bool false])/\w=w':=by
 have n:((s.size:Int)==0)=false:=ai.2 (by omega);obtain⟨a,f,l,d⟩:=fT s 1 (by omega);have m:∀w,(Instr.slice 9 (.string s) (some (.int .i64 1)) none none).run Tryz.prog w=.ok (.string a) w:=d;clear d;have k2:0<a.size:=by omega
 have k3:a.size<=40:=by omega
 have j:a[0].toNat<=57:=by
  have:a[0]=s[1]:=by
   have c:=ky f (i:=0) (by rw[<-aS];exact k2);rw[l7]at c
   exact c
  rw[this];exact k
 have b:=fun w=>aKh a ({ data:=#[105,110,102,105,110,105,116,121] }:I) w k2 k3 (ry rfl) (ry rfl) j (ry rfl)
 have g:=Z b;clear b f l;go_enter Tryz.func233,Tryz.ntmps233
 go_wp2_with (go_at_call 269;refine(g.o _).mono ?_;rintro e w' ⟨rfl,rfl⟩)
 go_ret3;exact⟨rfl,rfl⟩
open Go.RowKit
theorem cX (w:H):Y 242 #[.bool true] w fun e w'=>e=.returned (.int .u64 1)/\w=w':=by
 go_enter Tryz.func242,Tryz.ntmps242;go_wp2;go_ret;exact⟨rfl,rfl⟩
theorem cN (w:H):Y 242 #[.bool false] w fun e w'=>e=.returned (.int .u64 0)/\w=w':=by
 go_enter Tryz.func242,Tryz.ntmps242;go_wp2;go_ret;exact⟨rfl,rfl⟩
theorem aCF (w:H):Y 266 #[.bool true] w fun e w'=>e=.returned (.int .i64 1)/\w=w':=by
 go_enter Tryz.func266,Tryz.ntmps266;go_wp2;go_ret;exact⟨rfl,rfl⟩
theorem aBB (w:H):Y 266 #[.bool false] w fun e w'=>e=.returned (.int .i64 0)/\w=w':=by
 go_enter Tryz.func266,Tryz.ntmps266;go_wp2;go_ret;exact⟨rfl,rfl⟩
theorem aCG (w:H):Y 295 #[.bool true] w fun e w'=>e=.returned (.int .u64 1)/\w=w':=by
 go_enter Tryz.func295,Tryz.ntmps295;go_wp2;go_ret;exact⟨rfl,rfl⟩
theorem aBC (w:H):Y 295 #[.bool false] w fun e w'=>e=.returned (.int .u64 0)/\w=w':=by
 go_enter Tryz.func295,Tryz.ntmps295;go_wp2;go_ret;exact⟨rfl,rfl⟩
theorem aHy (s:I)(m:Nat)(x:Int)(neg:Bool)(r:Nat)(w:H)(T:aA w)(_hs:s.size<=40)(j:m≠0)(x1:-345<=x)(x2:x<=310)
  (c:∀w,Y 233 #[.string s] w fun e w'=>e=.returned (.tuple #[.float .f64 0,.int .i64 0,.bool false])/\w=w')
  (b:∀w,Y 234 #[.string s] w fun e w'=>e=.returned (.tuple #[.int .u64 m,.int .i64 x,.bool neg,.bool false,.bool false,.int .i64 s.size,.bool true])/\w=w')
  (a:∀w,aA w->Y 244 #[.int .u64 m,.int .i64 x,.bool neg] w fun e w'=>e=.returned (.tuple #[.float .f64 r,.bool true])/\w=w') :
  Y 205 #[.string s] w fun e w'=>e=.returned (.tuple #[.float .f64 r,.int .i64 s.size,.nilIface])/\w=w':=by
 have i:=T.opt;have k:((m:Int)==0)=false:=ai.2 (by omega);have g:=Z c;have f:=Z b;have d:=Z a;have h:=Z T;clear c b a T;cases neg;all_goals
  go_enter Tryz.func205,Tryz.ntmps205
  go_wp2_with (first
   | (go_at_call 233;refine(g.o _).mono ?_;rintro e w' ⟨rfl,rfl⟩)
   | (go_at_call 234;refine(f.o _).mono ?_;rintro e w' ⟨rfl,rfl⟩)
   | (go_at_call 242;((with_reducible refine(cX _).mono ?_);rintro e w' ⟨rfl,rfl⟩))
   | (go_at_call 242;((with_reducible refine(cN _).mono ?_);rintro e w' ⟨rfl,rfl⟩))
   | (go_at_call 244;refine(d.o _ h.o).mono ?_;rintro e w' ⟨rfl,rfl⟩))
  go_ret3;exact⟨rfl,rfl⟩
open Go.RowKit
theorem aP2 (n:Int)(w:H):(callFunc 169 #[.int .u64 n]).run Tryz.prog w=.ok (.value (.float .f64 n.toNat)) w:=by
 rw[pq Tryz.func169 (by kernel_rfl) (by kernel_rfl) (by kernel_rfl) (e:=Extern.MathFloatBits.float64frombits) (by kernel_rfl)];rfl
theorem mB (n:Int)(w:H):(callFunc 243 #[.int .u64 n]).run Tryz.prog w=.ok (.value (.float .f64 n.toNat)) w:=by
 rw[pq Tryz.func243 (by kernel_rfl) (by kernel_rfl) (by kernel_rfl) (e:=Extern.MathFloatBits.float64frombits) (by kernel_rfl)];rfl
theorem aP3 (r:Nat)(w:H):(callFunc 170 #[.float .f64 r]).run Tryz.prog w=.ok (.value (.int .u64 r)) w:=by
 rw[pq Tryz.func170 (by kernel_rfl) (by kernel_rfl) (by kernel_rfl) (e:=Extern.MathFloatBits.float64bits) (by kernel_rfl)];rfl
theorem aEU (r:Nat)(w:H):(callFunc 254 #[.float .f64 r]).run Tryz.prog w=.ok (.value (.int .u64 r)) w:=by
 rw[pq Tryz.func254 (by kernel_rfl) (by kernel_rfl) (by kernel_rfl) (e:=Extern.MathFloatBits.float64bits) (by kernel_rfl)];rfl
def uB (r:Nat):Nat:=(bits .andNot .u64 r 9223372036854775808).toNat
theorem uT (r:Nat)(w:H):Y 121 #[.float .f64 r] w fun e w'=>e=.returned (.float .f64 (uB r))/\w=w':=by
 have a:=aP2;have b:=aP3;go_enter Tryz.func121,Tryz.ntmps121;go_wp2;go_ret;exact⟨rfl,rfl⟩
def mK (r:Nat):Bool:=FloatKind.f64.format.order (uB r) 9218868437227405311==some .gt
theorem aJH (r:Nat)(w:H):Y 67 #[.float .f64 r,.int .i64 0] w fun e w'=>e=.returned (.bool (mK r))/\w=w':=by
 go_enter Tryz.func67,Tryz.ntmps67;go_wp2_with (go_at_call 121;refine(uT _ _).mono ?_;rintro e w' ⟨rfl,rfl⟩);go_ret;exact⟨rfl,rfl⟩
theorem gQ (r:Nat)(b:Bool)(w:H)(h:mK r=b):Y 67 #[.float .f64 r,.int .i64 0] w fun e w'=>e=.returned (.bool b)/\w=w':=by
 subst h;exact aJH r w
theorem aKi (s:I)(r:Nat)(w:H)
  (A:∀w',w=w'->Y 205 #[.string s] w' fun e b=>e=.returned (.tuple #[.float .f64 r,.int .i64 s.size,.nilIface])/\w'=b) :
  Y 164 #[.string s,.int .i64 64] w fun e w'=>e=.returned (.tuple #[.float .f64 r,.int .i64 s.size,.nilIface])/\w=w':=by
 have a:=Z A;clear A;go_enter Tryz.func164,Tryz.ntmps164
 go_wp2_with (go_at_call 205;refine(a.o _ rfl).mono ?_;rintro e w' ⟨rfl,rfl⟩)
 go_ret3;exact⟨rfl,rfl⟩
theorem aOL (s:I)(r:Nat)(w:H)
  (A:∀w',w=w'->Y 205 #[.string s] w' fun e b=>e=.returned (.tuple #[.float .f64 r,.int .i64 s.size,.nilIface])/\w'=b) :
  Y 119 #[.string s,.int .i64 64] w fun e w'=>e=.returned (.tuple #[.float .f64 r,.nilIface])/\w=w':=by
 have a:=Z A;clear A;go_enter Tryz.func119,Tryz.ntmps119
 go_wp2_with (go_at_call 164;refine(aKi s r _ a.o).mono ?_;rintro e w' ⟨rfl,rfl⟩)
 go_ret2;exact⟨rfl,rfl⟩
theorem aOK (s:I)(r:Nat)(w:H)
  (A:∀w',w=w'->Y 205 #[.string s] w' fun e b=>e=.returned (.tuple #[.float .f64 r,.int .i64 s.size,.nilIface])/\w'=b) :
  Y 66 #[.string s,.int .i64 64] w fun e w'=>e=.returned (.tuple #[.float .f64 r,.nilIface])/\w=w':=by
 have a:=Z A;clear A;go_enter Tryz.func66,Tryz.ntmps66
 go_wp2_with (go_at_call 119;refine(aOL s r _ a.o).mono ?_;rintro e w' ⟨rfl,rfl⟩)
 go_ret2;exact⟨rfl,rfl⟩
theorem aMu (s:I)(r:Nat)(w:H)(c:s.size<=maxLen)(b:cH s.data.toList=true)(hi:mK r=false)
  (A:∀w',w=w'->Y 205 #[.string s] w' fun e h=>e=.returned (.tuple #[.float .f64 r,.int .i64 s.size,.nilIface])/\w'=h) :
  Y 21 #[.string s] w fun e w'=>e=.returned (.tuple #[.float .f64 r,.bool true])/\w=w':=by
 have a:=fun w=>pS s w c
 rw[b]at a
 have d:=Z A;have g:=Z a;have f:=Z hi;clear A a b hi c;go_enter Tryz.func21,Tryz.ntmps21
 go_wp2_with (first
  | (go_at_call 65;refine(g.o _).mono ?_;rintro e w' ⟨rfl,rfl⟩)
  | (go_at_call 66;refine(aOK s r _ d.o).mono ?_;rintro e w' ⟨rfl,rfl⟩)
  | (go_at_call 67;refine(gQ r false _ f.o).mono ?_;rintro e w' ⟨rfl,rfl⟩))
 go_ret2;exact⟨rfl,rfl⟩
open Go.RowKit
theorem aA5 (x y hi mid:Nat)(w:H)(hx:x<18446744073709551616)(c:y<18446744073709551616)(a:x*y / 18446744073709551616=hi)(b:x*y%18446744073709551616=mid) :
  Y 202 #[.int .u64 x,.int .u64 y] w fun e w'=>e=.returned (.tuple #[.int .u64 hi,.int .u64 mid])/\w=w':=by
 refine(Tryz.bits_Mul64 x y hx c w).mono ?_;rintro e w' ⟨rfl,rfl⟩;rw[a,b];exact⟨rfl,rfl⟩
theorem aNh (s:Nat)(h:s<64):bits .and .i64 (s:Int) 63=s:=by
 have a:∀n:Fin 64,bits .and .i64 ((n.val:Nat):Int) 63=((n.val:Nat):Int):=by{decide +kernel};exact a ⟨s,h⟩
theorem aIH (x h l s hi mid:Nat)(w:H)(b o:Nat)(k:w.cell? ⟨b,o,none⟩=some (.int .u64 h))(_c1:w.cell? ⟨b,o+1,none⟩=some (.int .u64 l))(m:w.cell? ⟨b,o+2,none⟩=some (.int .i64 s))
  (hx:x<18446744073709551616) (f:h<18446744073709551616) (i:s<64) (c:x*h / 18446744073709551616=hi) (d:x*h%18446744073709551616=mid)
  (n:(IntKind.u64.wrap ((hi:Int) / 2^s*2^s) !=(hi:Int))=true) :
  Y 274 #[.int .u64 x,.pointer (some ⟨b,o,none⟩)] w fun e w'=>e=.returned (.int .u64 (bits .or .u64 ((hi:Int) / 2^s) 1))/\w=w':=by
 have a:=fun w=>aA5 x h hi mid w hx f c d
 have j:=aNh s i;have g:=Z a;clear a c d hx f;go_enter Tryz.func274,Tryz.ntmps274
 go_wp2_with (go_at_call 202;((with_reducible refine(g.o _).mono ?_);rintro e w' ⟨rfl,rfl⟩))
 go_ret;exact⟨rfl,rfl⟩
theorem aGP (x h l s hi mid a p:Nat)(w:H)(b o:Nat)(B:w.cell? ⟨b,o,none⟩=some (.int .u64 h))(C:w.cell? ⟨b,o+1,none⟩=some (.int .u64 l))(D:w.cell? ⟨b,o+2,none⟩=some (.int .i64 s))
  (hx:x<18446744073709551616) (k:h<18446744073709551616) (m:l<18446744073709551616) (v:s<64) (f:x*h / 18446744073709551616=hi) (g:x*h%18446744073709551616=mid) (i:x*l / 18446744073709551616=a) (j:x*l%18446744073709551616=p)
  (E:(IntKind.u64.wrap ((hi:Int) / 2^s*2^s) !=(hi:Int))=false) (q:Bool) (hq:decide (mid<a)=q) (z:Int) (y:IntKind.u64.wrap (if q then (hi:Int)-1 else (hi:Int))=z) (r:Bool) (hr:decide (1<IntKind.u64.wrap ((mid:Int)-a))=r) :
  Y 274 #[.int .u64 x,.pointer (some ⟨b,o,none⟩)] w fun e w'=>e=.returned (.int .u64 (bits .or .u64 (z / 2^s) (if r then 1 else 0)))/\∃n,w'=w.drewN n:=by
 have c:=fun w=>aA5 x h hi mid w hx k f g
 have d:=fun w=>aA5 x l a p w hx m i j
 have A:=aNh s v;have t:=Z c;have u:=Z d;clear c d f g i j hx k m;cases q;all_goals
  simp only[ed,fy,fw]at y;go_enter Tryz.func274,Tryz.ntmps274
  go_wp2_with (first
   | (go_at_call 202;((with_reducible refine(t.o _).mono ?_);rintro e w' ⟨rfl,rfl⟩))
   | (go_at_call 202;((with_reducible refine(u.o _).mono ?_);rintro e w' ⟨rfl,rfl⟩))
   | (go_at_call 242;((with_reducible refine(cX _).mono ?_);rintro e w' ⟨rfl,rfl⟩))
   | (go_at_call 242;((with_reducible refine(cN _).mono ?_);rintro e w' ⟨rfl,rfl⟩)))
  cases r;all_goals
   go_quiet ((first|(go_at_call 242;exact pu ((cX _).mono fun _ _ h=>⟨h.1,h.2.symm⟩))|(go_at_call 242;exact pu ((cN _).mono fun _ _ h=>⟨h.1,h.2.symm⟩))))
   go_wp2
   go_ret;exact⟨rfl,_,rfl⟩
def cJ (x h l s:Nat):Nat :=
 let hi:=x*h / 18446744073709551616
 let mid:=x*h%18446744073709551616
 let mid2:=x*l / 18446744073709551616
 if hi / 2^s*2^s≠hi then hi / 2^s ||| 1
 else (if mid<mid2 then (hi+18446744073709551615)%18446744073709551616 else hi) / 2^s ||| (if 1<(mid+18446744073709551616-mid2)%18446744073709551616 then 1 else 0)
theorem dC (z:Int):IntKind.u64.wrap z=z%18446744073709551616:=by
 have a:IntKind.u64.signed=false:=rfl;have b:IntKind.u64.bits=64:=rfl;unfold IntKind.wrap;simp only[a,b,lf,fw,fy];rfl
theorem aBm (n:Nat)(h:n<18446744073709551616):IntKind.u64.wrap (n:Int)=n:=by rw[dC];omega
theorem qG (a b:Nat)(c:a<18446744073709551616)(d:b<18446744073709551616):bits .or .u64 (a:Int) (b:Int)=((a ||| b:Nat):Int):=l8 a b c d
theorem tR (x y:Nat)(hx:x<18446744073709551616)(a:y<18446744073709551616):x*y / 18446744073709551616<18446744073709551616:=by
 rw[ko (by omega)];exact Nat.mul_lt_mul'' hx a
theorem oH (a s:Nat)(b:a<18446744073709551616):a / 2^s<18446744073709551616:=ju (nj _ _) b
theorem dI (x h l s:Nat)(w:H)(b o:Nat)(m:w.cell? ⟨b,o,none⟩=some (.int .u64 h))(p:w.cell? ⟨b,o+1,none⟩=some (.int .u64 l))(q:w.cell? ⟨b,o+2,none⟩=some (.int .i64 s))
  (hx:x<18446744073709551616) (g:h<18446744073709551616) (y:l<18446744073709551616) (z:s<64) :
  Y 274 #[.int .u64 x,.pointer (some ⟨b,o,none⟩)] w fun e w'=>e=.returned (.int .u64 (cJ x h l s:Nat))/\∃n,w'=w.drewN n:=by
 obtain⟨hi,c⟩:∃hi,x*h / 18446744073709551616=hi:=⟨_,rfl⟩
 obtain⟨mid,d⟩:∃mid,x*h%18446744073709551616=mid:=⟨_,rfl⟩
 obtain⟨mid2,f⟩:∃mid2,x*l / 18446744073709551616=mid2:=⟨_,rfl⟩
 obtain⟨lo2,C⟩:∃lo2,x*l%18446744073709551616=lo2:=⟨_,rfl⟩
 have j:hi<18446744073709551616:=by rw[<-c];exact tR x h hx g
 have K:mid<18446744073709551616:=by rw[<-d];exact gf _ (by omega)
 have L:mid2<18446744073709551616:=by rw[<-f];exact tR x l hx y
 have B:hi / 2^s<18446744073709551616:=oH hi s j;have i:((2:Int)^s)=((2^s:Nat):Int):=by simp
 have v:(hi:Int) / 2^s=((hi / 2^s:Nat):Int):=by rw[i,m8]
 have M:hi / 2^s*2^s<=hi:=Nat.div_mul_le_self _ _;have A:IntKind.u64.wrap ((hi:Int) / 2^s*2^s)=((hi / 2^s*2^s:Nat):Int):=by
  rw[v,i,<-pd];exact aBm _ (by omega)
 by_cases u:hi / 2^s*2^s≠hi
 ·refine(aIH x h l s hi mid w b o m p q hx g z c d (by rw[A,ct];omega)).mono ?_;rintro e w' ⟨rfl,rfl⟩;refine⟨?_,0,rfl⟩;have:cJ x h l s=hi / 2^s ||| 1:=by
   unfold cJ;simp only[c];rw[af u]
  rw[this,v];have:=qG (hi / 2^s) 1 B (by omega);rw[<-this];rfl
 ·have F:IntKind.u64.wrap ((mid:Int)-mid2)=(((mid+18446744073709551616-mid2)%18446744073709551616:Nat):Int):=by
   rw[dC];omega
  have J:IntKind.u64.wrap (if decide (mid<mid2)=true then (hi:Int)-1 else (hi:Int))=(((if mid<mid2 then (hi+18446744073709551615)%18446744073709551616 else hi):Nat):Int):=by
   by_cases hq:mid<mid2
   ·simp only[hq,decide_true,ed];rw[dC];omega
   ·simp only[hq,decide_false,fy,fw];exact aBm _ j
  refine(aGP x h l s hi mid mid2 lo2 w b o m p q hx g y z c d f C (by rw[A];exact ii.2 (by omega)) _ rfl _ J _ rfl).mono ?_;rintro e w' ⟨rfl,E⟩;refine⟨?_,E⟩;have r:cJ x h l s=(if mid<mid2 then (hi+18446744073709551615)%18446744073709551616 else hi) / 2^s ||| (if 1<(mid+18446744073709551616-mid2)%18446744073709551616 then 1 else 0):=by
   unfold cJ;simp only[c,d,f];rw[ae u]
  obtain⟨a,t⟩:=ex ((if mid<mid2 then (hi+18446744073709551615)%18446744073709551616 else hi))
  rw[<-t]at r ⊢
  have k:a<18446744073709551616:=by rw[t];split<;>omega
  rw[r,F];have D:(a:Int) / 2^s=((a / 2^s:Nat):Int):=by rw[i,m8]
  rw[D];by_cases hr:1<(mid+18446744073709551616-mid2)%18446744073709551616
  ·rw[af hr,af (bt (by omega))];have:=qG (a / 2^s) 1 (oH a s k) (by omega);rw[<-this];rfl
  ·rw[ae hr,ae (by rw[bi];omega)];have:=qG (a / 2^s) 0 (oH a s k) (by omega);rw[<-this];rfl
open Go.RowKit
theorem nS {a b:Int}(h:a=b):Ending.returned (.int .u64 a)=.returned (.int .u64 b):=by rw[h]
theorem nJ (x:Int)(w:H)(a:-3000<=x)(b:x<=3000):Y 272 #[.int .i64 x] w fun e w'=>e=.returned (.int .i64 (x*108853 / 32768))/\w=w':=by
 go_enter Tryz.func272,Tryz.ntmps272;go_wp2;go_ret;exact⟨rfl,rfl⟩
theorem tM (x:Int)(w:H)(a:-3000<=x)(b:x<=3000):Y 260 #[.int .i64 x] w fun e w'=>e=.returned (.int .i64 (x*78913 / 262144))/\w=w':=by
 go_enter Tryz.func260,Tryz.ntmps260;go_wp2;go_ret;exact⟨rfl,rfl⟩
theorem aIr (x:Int)(w:H)(a:-3000<=x)(b:x<=3000):Y 282 #[.int .i64 x] w fun e w'=>e=.returned (.int .i64 ((x*631305-261663) / 2097152))/\w=w':=by
 go_enter Tryz.func282,Tryz.ntmps282;go_wp2;go_ret;exact⟨rfl,rfl⟩
theorem aJ0 (u:Nat)(d:Int)(w:H)(_hu:u<18446744073709551616):Y 283 #[.int .u64 u,.int .i64 d] w fun e w'=>e=.returned (.int .u64 ((((u:Int)+d)%18446744073709551616).toNat:Nat))/\w=w':=by
 go_enter Tryz.func283,Tryz.ntmps283;go_wp2;go_ret;refine⟨nS ?_,rfl⟩;rw[dC,dC];omega
theorem aLA (u:Nat)(w:H)(_hu:u<18446744073709551616):Y 284 #[.int .u64 u] w fun e w'=>e=.returned (.int .u64 ((u+3)%18446744073709551616 / 4:Nat))/\w=w':=by
 go_enter Tryz.func284,Tryz.ntmps284;go_wp2;go_ret;refine⟨nS ?_,rfl⟩;rw[dC];omega
theorem aJA (u:Nat)(w:H)(a:u<18446744073709551616):Y 285 #[.int .u64 u] w fun e w'=>e=.returned (.int .u64 (u / 4:Nat))/\w=w':=by
 go_enter Tryz.func285,Tryz.ntmps285;go_wp2;go_ret;refine⟨nS ?_,rfl⟩;omega
theorem vS (n:Nat)(h:n<18446744073709551616):bits .and .u64 (n:Int) 1=((n%2:Nat):Int):=by
 have:=and_one_u64 (n:Int) (by omega) (by omega);rw[this];omega
theorem aKv (u:Nat)(w:H)(c:u<18446744073709551616):Y 277 #[.int .u64 u] w fun e w'=>e=.returned (.int .u64 ((u+1+u / 4%2)%18446744073709551616 / 4:Nat))/\w=w':=by
 have a:=vS (u / 4) (by omega);have e4:((u / 4:Nat):Int)=(u:Int) / 4:=by{omega};rw[e4]at a;have b:=Z a;clear a e4;go_enter Tryz.func277,Tryz.ntmps277;go_wp2;go_ret;refine⟨nS ?_,rfl⟩;rw[b.o,dC,dC];omega
theorem gS (e b s:Int)(i:Nat)(w:H)(g:Nat)(n v1 v2:Value)(c:Nat × Nat)(a:w.heap[g]?=some (.cells #[n,v1,v2] 265 c))(k:c=(0,0))(hi:i<696)(_hne:13≠g)
  (T:aA w) (p:-3000<=e) (q:e<=3000) (r:-3000<=b) (t:b<=3000) (u:-(e+b+3)=s) :
  Y 273 #[.pointer (some ⟨g,0,none⟩),.int .i64 e,.int .i64 ((i:Int)-348),.int .i64 b] w
   fun e w'=>e=.returned (.tuple #[])/\w'.heap[g]?=some (.cells #[.int .u64 (aJ i),.int .u64 (aR i),.int .i64 s] 265 (0,0))/\aD (· = g) w w':=by
 subst k;obtain⟨l,m⟩:=T.p10 i hi;rw[bn]at l m
 have f:=au w g 0 _ _ _ a;have h:=au w g 1 _ _ _ a;have j:=au w g 2 _ _ _ a;have v:=oy w g 0 _ _ a;have x:=oy w g 1 _ _ a;have y:=oy w g 2 _ _ a;generalize aJ i=H' at *
 generalize aR i=L at *
 clear T;have d:=Z a;clear a;simp at f h j;go_enter Tryz.func273,Tryz.ntmps273
 go_wp2
 go_end0
 refine⟨rfl,?_,(((aD.refl (· = g) w).setCell ⟨g,0,none⟩ _ (fun _=>rfl)).setCell ⟨g,1,none⟩ _ (fun _=>rfl)).setCell ⟨g,2,none⟩ _ (fun _=>rfl)⟩;rw[ir _ _ _ _ _ _ (ir _ _ _ _ _ _ (ir _ _ _ _ _ _ d.o))];simp
