/-
Compare (real's and the document's) over float bits.
-/
import Derived.Test.YtcfgbdhpcboikaaGreatDoorSetD
namespace Go.Proofs.YtcfgbdhpcboikaaGreatDoor
set_option maxHeartbeats 600000
set_option maxRecDepth 100000
open Go.RowKit
open Go.RowKit
def ltF (a b:Nat):Bool:=FloatKind.f64.format.order a b==some .lt
def gtF (a b:Nat):Bool:=FloatKind.f64.format.order a b==some .gt
open Go.RowKit
def aEM:Ieee.Datum->Int
  | .nan .. => 2
  | .infinity s=>if s then -1 else 1
  | .number .. => 0
def kvD:Ieee.Datum->Int
  | .number s m i=>Ieee.signed s m (i+1074).toNat
  | _=>0
def aEy:Ieee.Datum->Prop
  | .number _ _ i=>-1074<=i
  | _=>True
def cl (a:Nat):Int:=aEM (FloatKind.f64.format.read a)
def kv (a:Nat):Int:=kvD (FloatKind.f64.format.read a)
theorem least:Ieee.Format.leastPlace FloatKind.f64.format=-1074:=by kernel_rfl
theorem aAH (a:Nat):aEy (FloatKind.f64.format.read a):=by
 unfold Ieee.Format.read;simp only[];split;{show -1074<=_;rw[least];exact ig _};{split;{show -1074<=_;rw[least];omega};{split<;>trivial}}
theorem zJ (s:Bool)(m a b:Nat):Ieee.signed s m (a+b)=Ieee.signed s m a*(2^b:Nat):=by
 unfold Ieee.signed;have e:m <<< (a+b)=(m <<< a)*2^b:=by{rw[Nat.shiftLeft_add,m5 (m <<< a)]};split;{rw[e,pd,Int.neg_mul]};{rw[e,pd]}
theorem aGe (x y:Int)(c:Nat)(b:0<c):compare (x*(c:Int)) (y*(c:Int))=compare x y:=by
 have a:(0:Int)<c:=by{omega};rcases ra x y with h|h|h;{rw[rc.2 h,rc.2 (uf h a)]};{subst h;rw[rd.2 rfl,rd.2 rfl]};{rw[re.2 h,re.2 (uf h a)]}
theorem aD5 (s t:Bool)(m n:Nat)(i j:Int)(hi:-1074<=i)(k:-1074<=j) :
    (Ieee.Datum.number s m i).order (.number t n j)=some (compare (kvD (.number s m i)) (kvD (.number t n j))):=by
 unfold Ieee.Datum.order kvD;simp only[d6];obtain⟨b,e⟩:∃b:Int,min i j=b:=⟨_,rfl⟩;rw[e];obtain⟨u,f⟩:∃u:Nat,i-b=u:=⟨(i-b).toNat,by omega⟩;obtain⟨v,g⟩:∃v:Nat,j-b=v:=⟨(j-b).toNat,by omega⟩;obtain⟨c,h⟩:∃c:Nat,b+1074=c:=⟨(b+1074).toNat,by omega⟩;have a:(i+1074).toNat=u+c:=by{omega};have d:(j+1074).toNat=v+c:=by{omega};rw[a,d,f,g,eo,eo,zJ,zJ,aGe _ _ _ (ar c)]
def jF (c1 k1 c2 k2:Int):Int:=if c1<c2 then -1 else if c2<c1 then 1 else if k1<k2 then -1 else if k2<k1 then 1 else 0
def yQ (c1 k1 c2 k2:Int):Ordering:=if c1<c2 then .lt else if c2<c1 then .gt else compare k1 k2
theorem aH1 (x y:Ieee.Datum)(hx:aEy x)(a:aEy y):x.order y=if aEM x=2\/aEM y=2 then none else some (yQ (aEM x) (kvD x) (aEM y) (kvD y)):=by
 cases x with|nan s f=>{rw[af (.inl rfl)];cases y<;>rfl}|infinity s=>{cases y with|nan=>{rw[af (.inr rfl)];rfl}|infinity t=>{cases s<;>cases t<;>rfl}|number t n j=>{cases s<;>rfl}}|number s m i=>{cases y with|nan=>{rw[af (.inr rfl)];rfl}|infinity t=>{cases t<;>rfl}|number t n j=>{rw[aD5 s t m n i j hx a,ae (by show ¬((0:Int)=2\/(0:Int)=2);omega)];rfl}}
theorem yS (a b:Nat):FloatKind.f64.format.order a b=if cl a=2\/cl b=2 then none else some (yQ (cl a) (kv a) (cl b) (kv b)) :=
  aH1 _ _ (aAH a) (aAH b)
theorem aAb:cl 0=0:=by kernel_rfl
theorem aCW:kv 0=0:=by kernel_rfl
theorem aOG (a b c d:Int):yQ a b c d=.lt↔jF a b c d=-1:=by
 unfold yQ jF;split;{simp};{split;{simp};{rw[rc];split;{simp[*]};{split<;>simp[*]}}}
theorem aOF (a b c d:Int):yQ a b c d=.gt↔jF a b c d=1:=by
 unfold yQ jF;split;{simp};{split;{simp};{rw[re];split;{constructor;{intro h;omega};{intro h;cases h}};{split<;>simp[*]}}}
theorem aOE (a b c d:Int):yQ a b c d=.eq↔jF a b c d=0:=by
 unfold yQ jF;split;{simp};{split;{simp};{rw[rd];split;{constructor;{intro h;omega};{intro h;cases h}};{split;{constructor;{intro h;omega};{intro h;cases h}};{constructor;{intro _;rfl};{intro _;omega}}}}}
theorem aJU (a b:Nat):ltF a b=true↔(cl a≠2/\cl b≠2)/\jF (cl a) (kv a) (cl b) (kv b)=-1:=by
 unfold ltF;rw[yS];by_cases h:cl a=2\/cl b=2;{rw[af h];constructor;{intro c;cases c};{rintro⟨⟨d,e⟩,_⟩;rcases h with h|h<;>contradiction}};{rw[ae h];have c:=gx.1 h;rw[cn,d6,aOG];exact⟨fun x=>⟨⟨c.1,c.2⟩,x⟩,fun x=>x.2⟩}
theorem aE7 (a b:Nat):gtF a b=true↔(cl a≠2/\cl b≠2)/\jF (cl a) (kv a) (cl b) (kv b)=1:=by
 unfold gtF;rw[yS];by_cases h:cl a=2\/cl b=2;{rw[af h];constructor;{intro c;cases c};{rintro⟨⟨d,e⟩,_⟩;rcases h with h|h<;>contradiction}};{rw[ae h];have c:=gx.1 h;rw[cn,d6,aOF];exact⟨fun x=>⟨⟨c.1,c.2⟩,x⟩,fun x=>x.2⟩}
theorem aBF (a b:Nat):(FloatKind.f64.format.order a b==some .eq)=true↔(cl a≠2/\cl b≠2)/\jF (cl a) (kv a) (cl b) (kv b)=0:=by
 rw[yS];by_cases h:cl a=2\/cl b=2;{rw[af h];constructor;{intro c;cases c};{rintro⟨⟨d,e⟩,_⟩;rcases h with h|h<;>contradiction}};{rw[ae h];have c:=gx.1 h;rw[cn,d6,aOE];exact⟨fun x=>⟨⟨c.1,c.2⟩,x⟩,fun x=>x.2⟩}
open Go.RowKit
theorem qE (a:I)(l:U)(h:a.data.toList=l):a=⟨l.toArray⟩:=by
 subst h;rfl
theorem eR (a b:I):(a++b).data.toList=a.data.toList++b.data.toList:=by simp
theorem iI {a:I}{l:U}(h:a.data.toList=l):Ending.returned (.string a)=.returned (.string ⟨l.toArray⟩):=by rw[qE a l h]
theorem pC (n:Int)(w:H)(T:aA w)(a:-9223372036854775808<=n)(b:n<=9223372036854775807) :
    Y 116 #[.int .i64 n] w (O (.string ⟨(Lib.itoa n).toArray⟩) w):=by
 refine(Tryz.strconv_Itoa n a b w T.u10).mono ?_;rintro e w' ⟨rfl,k,os,rfl⟩;refine⟨rfl,rfl,rfl,rfl,?_,?_⟩;{show w.heap.size<=(w.heap++os).size;simp};{intro j c;show(w.heap++os)[j]?=w.heap[j]?;rw[li c]}
theorem pD (n:Int)(a:-9223372036854775808<=n)(b:n<=9223372036854775807):(Lib.itoa n).length<=21:=by
 unfold Lib.itoa;split;{rw[bv,dv];have:=gR n.natAbs (by omega);omega};{rw[dv];have:=gR n.toNat (by omega);omega}
structure vQ (b:Nat):Prop where
  real:(FloatKind.f64.format.order b b !=some .eq)=false
  fin:mK b=false
  nz:(FloatKind.f64.format.order b 0==some .eq)=false
  pos:(FloatKind.f64.format.order b 0==some .lt)=false
theorem aD6 (b:Nat)(txt hd q:U)(d:UInt8)(x:Int)(w:H)(T:aA w)(p:mQ b txt)(c:lV txt [d] x hd q)(a:vQ b)(hx:x+1 < -5) :
    Y 63 #[.float .f64 b] w (O (.string ⟨(d :: [101,45]++Lib.itoa (-x)).toArray⟩) w):=by
 have u:=Z p;have l:=Z T;have y:=Z c;have x1:=c.lo;have x2:=c.hi;have F:=a.real;have J:=a.nz;have K:=a.pos;have m:=fun w=>gQ b false w a.fin;have v:=Z m;obtain⟨s,i⟩:∃s:I,s=⟨[d].toArray⟩:=⟨_,rfl⟩;have f:s.data.toList=[d]:=by{rw[i]};have E:s.size=1:=by{rw[aS,f];rfl};obtain⟨s1,h,N,n⟩:=qF s 1 (by omega);have C:∀w,(Instr.slice 9 (.string s) none (some (.int .i64 1)) none).run Tryz.prog w=.ok (.string s1) w:=n;rw[f]at h;have z:=Z i;have B:=Z f;have t:=Z h;clear p T c a m i f h n;go_enter Tryz.func63,Tryz.ntmps63;go_wp2_with (go_at_call 67;((with_reducible refine(v.o _).mono ?_);rintro e w' ⟨rfl,rfl⟩));refine(lI b txt [d] hd q x _ l.o u.o y.o).mono ?_;rw[<-z.o];rintro e L ⟨rfl,g⟩;have k:=Z g;have A:=Z (l.o.below g (ah _));clear g;go_wp2_with fail;have D:=pD (1-(x+1)) (by omega) (by omega);refine(pC (1-(x+1)) _ A.o (by omega) (by omega)).mono ?_;rintro e M ⟨rfl,j⟩;have r:=Z (k.o.trans (j.mono k.o.size));clear j;go_wp2;go_ret;refine⟨iI ?_,r.o⟩;simp only[eR];rw[t.o,show 1-(x+1)=-x by omega];simp
theorem aD7 (b:Nat)(txt hd q:U)(d:UInt8)(x:Int)(w:H)(T:aA w)(p:mQ b txt)(c:lV txt [d] x hd q)(a:vQ b)(hx:21<x+1) :
    Y 63 #[.float .f64 b] w (O (.string ⟨(d :: [101,43]++Lib.itoa x).toArray⟩) w):=by
 have u:=Z p;have l:=Z T;have y:=Z c;have x1:=c.lo;have x2:=c.hi;have F:=a.real;have J:=a.nz;have K:=a.pos;have m:=fun w=>gQ b false w a.fin;have v:=Z m;obtain⟨s,i⟩:∃s:I,s=⟨[d].toArray⟩:=⟨_,rfl⟩;have f:s.data.toList=[d]:=by{rw[i]};have E:s.size=1:=by{rw[aS,f];rfl};obtain⟨s1,h,N,n⟩:=qF s 1 (by omega);have C:∀w,(Instr.slice 9 (.string s) none (some (.int .i64 1)) none).run Tryz.prog w=.ok (.string s1) w:=n;rw[f]at h;have z:=Z i;have B:=Z f;have t:=Z h;clear p T c a m i f h n;go_enter Tryz.func63,Tryz.ntmps63;go_wp2_with (go_at_call 67;((with_reducible refine(v.o _).mono ?_);rintro e w' ⟨rfl,rfl⟩));refine(lI b txt [d] hd q x _ l.o u.o y.o).mono ?_;rw[<-z.o];rintro e L ⟨rfl,g⟩;have k:=Z g;have A:=Z (l.o.below g (ah _));clear g;go_wp2_with fail;have D:=pD x (by omega) (by omega);refine(pC x _ A.o (by omega) (by omega)).mono ?_;rintro e M ⟨rfl,j⟩;have r:=Z (k.o.trans (j.mono k.o.size));clear j;go_wp2;go_ret;refine⟨iI ?_,r.o⟩;simp only[eR];rw[t.o];simp
theorem aC0 (b k:Nat)(txt hd u:U)(d:UInt8)(D:U)(x:Int)(w:H)(T:aA w)(t:mQ b txt)(f:lV txt (d :: D) x hd u)(a:vQ b)(hx:x+1 < -5)(J:D.length=k)(k1:1<=k)(k2:k<=20) :
    Y 63 #[.float .f64 b] w (O (.string ⟨(d :: 46 :: D++[101,45]++Lib.itoa (-x)).toArray⟩) w):=by
 have A:=Z t;have n:=Z T;have C:=Z f;have x1:=f.lo;have x2:=f.hi;have R:=a.real;have S:=a.nz;have V:=a.pos;have p:=fun w=>gQ b false w a.fin;have B:=Z p;obtain⟨s,j⟩:∃s:I,s=⟨(d :: D).toArray⟩:=⟨_,rfl⟩;have c:s.data.toList=(d :: D):=by{rw[j]};have Q:s.size=k+1:=by{rw[aS,c];simp[J]};obtain⟨s1,h,z1,q⟩:=qF s 1 (by omega);have M:∀w,(Instr.slice 9 (.string s) none (some (.int .i64 1)) none).run Tryz.prog w=.ok (.string s1) w:=q;rw[c]at h;obtain⟨K,i,z2,r⟩:=fT s 1 (by omega);have N:∀w,(Instr.slice 9 (.string s) (some (.int .i64 1)) none none).run Tryz.prog w=.ok (.string K) w:=r;rw[c]at i;have z:=Z i;clear i r;have E:=Z j;have L:=Z c;have y:=Z h;clear t T f a p j c h q;go_enter Tryz.func63,Tryz.ntmps63;go_wp2_with (go_at_call 67;((with_reducible refine(B.o _).mono ?_);rintro e w' ⟨rfl,rfl⟩));refine(lI b txt (d :: D) hd u x _ n.o A.o C.o).mono ?_;rw[<-E.o];rintro e W ⟨rfl,g⟩;have m:=Z g;have F:=Z (n.o.below g (ah _));clear g;go_wp2_with fail;have P:=pD (1-(x+1)) (by omega) (by omega);refine(pC (1-(x+1)) _ F.o (by omega) (by omega)).mono ?_;rintro e X ⟨rfl,l⟩;have v:=Z (m.o.trans (l.mono m.o.size));clear l;go_wp2;go_ret;refine⟨iI ?_,v.o⟩;simp only[eR];rw[y.o,z.o,show 1-(x+1)=-x by omega];simp
theorem aC1 (b k:Nat)(txt hd u:U)(d:UInt8)(D:U)(x:Int)(w:H)(T:aA w)(t:mQ b txt)(f:lV txt (d :: D) x hd u)(a:vQ b)(hx:21<x+1)(J:D.length=k)(k1:1<=k)(k2:k<=20) :
    Y 63 #[.float .f64 b] w (O (.string ⟨(d :: 46 :: D++[101,43]++Lib.itoa x).toArray⟩) w):=by
 have A:=Z t;have n:=Z T;have C:=Z f;have x1:=f.lo;have x2:=f.hi;have R:=a.real;have S:=a.nz;have V:=a.pos;have p:=fun w=>gQ b false w a.fin;have B:=Z p;obtain⟨s,j⟩:∃s:I,s=⟨(d :: D).toArray⟩:=⟨_,rfl⟩;have c:s.data.toList=(d :: D):=by{rw[j]};have Q:s.size=k+1:=by{rw[aS,c];simp[J]};obtain⟨s1,h,z1,q⟩:=qF s 1 (by omega);have M:∀w,(Instr.slice 9 (.string s) none (some (.int .i64 1)) none).run Tryz.prog w=.ok (.string s1) w:=q;rw[c]at h;obtain⟨K,i,z2,r⟩:=fT s 1 (by omega);have N:∀w,(Instr.slice 9 (.string s) (some (.int .i64 1)) none none).run Tryz.prog w=.ok (.string K) w:=r;rw[c]at i;have z:=Z i;clear i r;have E:=Z j;have L:=Z c;have y:=Z h;clear t T f a p j c h q;go_enter Tryz.func63,Tryz.ntmps63;go_wp2_with (go_at_call 67;((with_reducible refine(B.o _).mono ?_);rintro e w' ⟨rfl,rfl⟩));refine(lI b txt (d :: D) hd u x _ n.o A.o C.o).mono ?_;rw[<-E.o];rintro e W ⟨rfl,g⟩;have m:=Z g;have F:=Z (n.o.below g (ah _));clear g;go_wp2_with fail;have P:=pD x (by omega) (by omega);refine(pC x _ F.o (by omega) (by omega)).mono ?_;rintro e X ⟨rfl,l⟩;have v:=Z (m.o.trans (l.mono m.o.size));clear l;go_wp2;go_ret;refine⟨iI ?_,v.o⟩;simp only[eR];rw[y.o,z.o];simp
open Go.RowKit
theorem aD8 (n:Nat):Lib.repeatL [48] n=List.replicate n 48:=by
 induction n with|zero=>rfl|succ n ih=>{rw[Lib.repeatL,ih];rfl}
theorem aB4 (n:Int)(w:H)(a:0<=n)(b:n<=1000) :
    Y 115 #[.string { data:=#[48] },.int .i64 n] w (O (.string ⟨(List.replicate n.toNat (48:UInt8)).toArray⟩) w):=by
  obtain⟨c,rfl⟩:∃c:Nat,n=c:=⟨n.toNat,by omega⟩
  refine (Tryz.strings_Repeat { data := #[48] } c w (by omega) (by have e : ({ data := #[48] } : I).size = 1 := rfl
                                                                   rw [e]; omega)).mono ?_
  rintro e w' ⟨rfl,h⟩;refine⟨?_,h⟩;rw[show({ data:=#[48] }:I).data.toList=[48]from rfl,aD8,eo]
theorem aGv (b:Nat)(txt hd p D:U)(x:Int)(w:H)(T:aA w)(n:mQ b txt)(c:lV txt D x hd p)(a:vQ b)(E:(D.length:Int)<=x+1)(hx:x+1<=21) :
    Y 63 #[.float .f64 b] w (O (.string ⟨(D++List.replicate (x+1-D.length).toNat 48).toArray⟩) w):=by
 obtain⟨k,d⟩:=ex D.length;rw[<-d]at E ⊢;have t:=Z n;have C:=Z T;have v:=Z c;have x1:=c.lo;have x2:=c.hi;have K:=a.real;have L:=a.nz;have M:=a.pos;have m:=fun w=>gQ b false w a.fin;have u:=Z m;obtain⟨s,g⟩:∃s:I,s=⟨D.toArray⟩:=⟨_,rfl⟩;have h:s.data.toList=D:=by{rw[g]};have J:s.size=k:=by{rw[aS,h,d]};have A:=Z g;have B:=Z h;clear n T c a m g h d;go_enter Tryz.func63,Tryz.ntmps63;go_wp2_with (go_at_call 67;((with_reducible refine(u.o _).mono ?_);rintro e w' ⟨rfl,rfl⟩));refine(lI b txt D hd p x _ C.o t.o v.o).mono ?_;rw[<-A.o];rintro e N ⟨rfl,i⟩;have l:=Z i;clear i;obtain⟨r,hr⟩:∃r:I,r=⟨(List.replicate (x+1-k).toNat (48:UInt8)).toArray⟩:=⟨_,rfl⟩;have f:r.data.toList=List.replicate (x+1-k).toNat 48:=by{rw[hr]};have F:r.size<=1000:=by{rw[aS,f,ix];omega};have y:=Z hr;have z:=Z f;clear hr f;go_wp2_with fail;refine(aB4 (x+1-k) _ (by omega) (by omega)).mono ?_;rw[<-y.o];rintro e P ⟨rfl,j⟩;have q:=Z (l.o.trans (j.mono l.o.size));clear j;go_wp2;go_ret;refine⟨iI ?_,q.o⟩;simp only[eR];rw[B.o,z.o]
theorem aH8 (b:Nat)(txt hd p D:U)(x:Int)(w:H)(T:aA w)(n:mQ b txt)(c:lV txt D x hd p)(a:vQ b)(F:D.length<=30)(E:1<=D.length)(hx:x+1<=0)(K:-5<=x+1) :
    Y 63 #[.float .f64 b] w (O (.string ⟨([48,46]++List.replicate (-(x+1)).toNat 48++D).toArray⟩) w):=by
 obtain⟨k,d⟩:=ex D.length;rw[<-d]at F E;have t:=Z n;have C:=Z T;have v:=Z c;have x1:=c.lo;have x2:=c.hi;have Q:=a.real;have R:=a.nz;have S:=a.pos;have m:=fun w=>gQ b false w a.fin;have u:=Z m;obtain⟨s,g⟩:∃s:I,s=⟨D.toArray⟩:=⟨_,rfl⟩;have h:s.data.toList=D:=by{rw[g]};have P:s.size=k:=by{rw[aS,h,d]};have A:=Z g;have B:=Z h;clear n T c a m g h d;have J:¬(k:Int)<=x+1:=by{omega};have L:decide ((k:Int)<=x+1)=false:=bo J;have M:decide (1<=x+1)=false:=bo (by omega);go_enter Tryz.func63,Tryz.ntmps63;go_wp2_with (go_at_call 67;((with_reducible refine(u.o _).mono ?_);rintro e w' ⟨rfl,rfl⟩));refine(lI b txt D hd p x _ C.o t.o v.o).mono ?_;rw[<-A.o];rintro e V ⟨rfl,i⟩;have l:=Z i;clear i;obtain⟨r,hr⟩:∃r:I,r=⟨(List.replicate (-(x+1)).toNat (48:UInt8)).toArray⟩:=⟨_,rfl⟩;have f:r.data.toList=List.replicate (-(x+1)).toNat 48:=by{rw[hr]};have N:r.size<=1000:=by{rw[aS,f,ix];omega};have y:=Z hr;have z:=Z f;clear hr f;go_wp2_with fail;refine(aB4 (-(x+1)) _ (by omega) (by omega)).mono ?_;rw[<-y.o];rintro e W ⟨rfl,j⟩;have q:=Z (l.o.trans (j.mono l.o.size));clear j;go_wp2;go_ret;refine⟨iI ?_,q.o⟩;simp only[eR];rw[B.o,z.o];rfl
theorem aGu (b:Nat)(txt hd u D:U)(x:Int)(w:H)(T:aA w)(r:mQ b txt)(d:lV txt D x hd u)(a:vQ b)(K:x+1<(D.length:Int))(S:1<=x+1)(hx:x+1<=21)(L:D.length<=30) :
    Y 63 #[.float .f64 b] w (O (.string ⟨(D.take (x+1).toNat++[46]++D.drop (x+1).toNat).toArray⟩) w):=by
 obtain⟨k,i⟩:=ex D.length;rw[<-i]at K L;have A:=Z r;have J:=Z T;have C:=Z d;have x1:=d.lo;have x2:=d.hi;have W:=a.real;have X:=a.nz;have r4:=a.pos;have m:=fun w=>gQ b false w a.fin;have B:=Z m;obtain⟨s,j⟩:∃s:I,s=⟨D.toArray⟩:=⟨_,rfl⟩;have c:s.data.toList=D:=by{rw[j]};have V:s.size=k:=by{rw[aS,c,i]};obtain⟨p,f⟩:∃p:Nat,x+1=p:=⟨(x+1).toNat,by omega⟩;obtain⟨s1,g,z1,n⟩:=qF s p (by omega);have Q:∀w,(Instr.slice 9 (.string s) none (some (.int .i64 (x+1))) none).run Tryz.prog w=.ok (.string s1) w:=by{rw[f];exact n};rw[c]at g;obtain⟨t,h,z2,q⟩:=fT s p (by omega);have R:∀w,(Instr.slice 9 (.string s) (some (.int .i64 (x+1))) none none).run Tryz.prog w=.ok (.string t) w:=by{rw[f];exact q};rw[c]at h;have N:s1.size<=30:=by{omega};have P:t.size<=30:=by{omega};have y:=Z g;have z:=Z h;have E:=Z f;clear g h n q f;have F:=Z j;have M:=Z c;clear r T d a m j c i;go_enter Tryz.func63,Tryz.ntmps63;go_wp2_with (go_at_call 67;((with_reducible refine(B.o _).mono ?_);rintro e w' ⟨rfl,rfl⟩));refine(lI b txt D hd u x _ J.o A.o C.o).mono ?_;rw[<-F.o];rintro e w2 ⟨rfl,l⟩;have v:=Z l;clear l;go_wp2_with fail;go_quiet (fail);go_wp2;go_ret;refine⟨iI ?_,v.o.trans ⟨rfl,rfl,rfl,ah _,fun _ _=>rfl⟩⟩;simp only[eR];rw[y.o,z.o,E.o,eo]
theorem wK (b:Nat)(w:H)(f:(FloatKind.f64.format.order b b !=some .eq)=false)(c:mK b=false)(g:(FloatKind.f64.format.order b 0==some .eq)=true) :
    Y 63 #[.float .f64 b] w fun e w'=>e=.returned (.string { data:=#[48] })/\w=w':=by
  have a:=fun w=>gQ b false w c
  have d:=Z a;clear a c;go_enter Tryz.func63,Tryz.ntmps63
  go_wp2_with (go_at_call 67;((with_reducible refine(d.o _).mono ?_);rintro e w' ⟨rfl,rfl⟩))
  go_ret;exact⟨rfl,rfl⟩
theorem aEY:FloatKind.f64.format.fractionBits=52:=by kernel_rfl
theorem aBI:FloatKind.f64.format.binade=4503599627370496:=by kernel_rfl
theorem aG2:FloatKind.f64.format.infRung=2047*4503599627370496:=by kernel_rfl
theorem aEZ:FloatKind.f64.format.signWeight=9223372036854775808:=by kernel_rfl
theorem aNC (b:Nat)(h:b<9223372036854775808):uB b=b:=by
 unfold uB;have e:bits .andNot .u64 (b:Int) 9223372036854775808=(b:Int):=by{show IntKind.u64.wrap ((BitVec.ofInt 64 (b:Int) &&& ~~~BitVec.ofInt 64 9223372036854775808).toNat:Int)=_;have a:(2:Nat)^63=9223372036854775808:=by{decide};rw[BitVec.toNat_and,ofInt_u64 b (by omega),show(~~~BitVec.ofInt 64 9223372036854775808).toNat=2^63-1 by decide,jk,lj (by omega),dC];omega};rw[e,eo]
