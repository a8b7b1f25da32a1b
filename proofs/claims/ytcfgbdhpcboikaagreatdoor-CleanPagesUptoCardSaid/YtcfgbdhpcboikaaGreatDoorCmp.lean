/-
Compare (real's and the document's) over float bits.
-/
import Derived.Test.YtcfgbdhpcboikaaGreatDoorSetD
namespace Go.Proofs.YtcfgbdhpcboikaaGreatDoor
set_option maxHeartbeats 600000
set_option maxRecDepth 100000
open Go.RowKit
open Go.RowKit
def ltF (a b:Nat):Bool:=FloatKind.f64.format.order a b==some .lt
def gtF (a b:Nat):Bool:=FloatKind.f64.format.order a b==some .gt
open Go.RowKit
def aFI:Ieee.Datum->Int
  | .nan .. => 2
  | .infinity s=>if s then -1 else 1
  | .number .. => 0
def kvD:Ieee.Datum->Int
  | .number s m i=>Ieee.signed s m (i+1074).toNat
  | _=>0
def aFu:Ieee.Datum->Prop
  | .number _ _ i=>-1074<=i
  | _=>True
def cl (a:Nat):Int:=aFI (FloatKind.f64.format.read a)
def kv (a:Nat):Int:=kvD (FloatKind.f64.format.read a)
theorem least:Ieee.Format.leastPlace FloatKind.f64.format=-1074:=by kernel_rfl
theorem aBt (a:Nat):aFu (FloatKind.f64.format.read a):=by
 unfold Ieee.Format.read;simp only[];split;{show -1074<=_;rw[least];exact iq _};{split;{show -1074<=_;rw[least];omega};{split<;>trivial}}
theorem aAE (s:Bool)(m a b:Nat):Ieee.signed s m (a+b)=Ieee.signed s m a*(2^b:Nat):=by
 unfold Ieee.signed;have e:m <<< (a+b)=(m <<< a)*2^b:=by{rw[Nat.shiftLeft_add,nh (m <<< a)]};split;{rw[e,pj,Int.neg_mul]};{rw[e,pj]}
theorem aG8 (x y:Int)(c:Nat)(b:0<c):compare (x*(c:Int)) (y*(c:Int))=compare x y:=by
 have a:(0:Int)<c:=by{omega};rcases rg x y with h|h|h;{rw[rh.2 h,rh.2 (uk h a)]};{subst h;rw[ri.2 rfl,ri.2 rfl]};{rw[rj.2 h,rj.2 (uk h a)]}
theorem aE3 (s t:Bool)(m n:Nat)(i j:Int)(hi:-1074<=i)(k:-1074<=j) :
    (Ieee.Datum.number s m i).order (.number t n j)=some (compare (kvD (.number s m i)) (kvD (.number t n j))):=by
 unfold Ieee.Datum.order kvD;simp only[fe];obtain⟨b,e⟩:∃b:Int,min i j=b:=⟨_,rfl⟩;rw[e];obtain⟨u,f⟩:∃u:Nat,i-b=u:=⟨(i-b).toNat,by omega⟩;obtain⟨v,g⟩:∃v:Nat,j-b=v:=⟨(j-b).toNat,by omega⟩;obtain⟨c,h⟩:∃c:Nat,b+1074=c:=⟨(b+1074).toNat,by omega⟩;have a:(i+1074).toNat=u+c:=by{omega};have d:(j+1074).toNat=v+c:=by{omega};rw[a,d,f,g,fh,fh,aAE,aAE,aG8 _ _ _ (ay c)]
def kO (c1 k1 c2 k2:Int):Int:=if c1<c2 then -1 else if c2<c1 then 1 else if k1<k2 then -1 else if k2<k1 then 1 else 0
def aAq (c1 k1 c2 k2:Int):Ordering:=if c1<c2 then .lt else if c2<c1 then .gt else compare k1 k2
theorem aIY (x y:Ieee.Datum)(hx:aFu x)(a:aFu y):x.order y=if aFI x=2\/aFI y=2 then none else some (aAq (aFI x) (kvD x) (aFI y) (kvD y)):=by
 cases x with|nan s f=>{rw[ae (.inl rfl)];cases y<;>rfl}|infinity s=>{cases y with|nan=>{rw[ae (.inr rfl)];rfl}|infinity t=>{cases s<;>cases t<;>rfl}|number t n j=>{cases s<;>rfl}}|number s m i=>{cases y with|nan=>{rw[ae (.inr rfl)];rfl}|infinity t=>{cases t<;>rfl}|number t n j=>{rw[aE3 s t m n i j hx a,ac (by show ¬((0:Int)=2\/(0:Int)=2);omega)];rfl}}
theorem aAs (a b:Nat):FloatKind.f64.format.order a b=if cl a=2\/cl b=2 then none else some (aAq (cl a) (kv a) (cl b) (kv b)) :=
  aIY _ _ (aBt a) (aBt b)
theorem aAX:cl 0=0:=by kernel_rfl
theorem aDS:kv 0=0:=by kernel_rfl
theorem aPF (a b c d:Int):aAq a b c d=.lt↔kO a b c d=-1:=by
 unfold aAq kO;split;{simp};{split;{simp};{rw[rh];split;{simp[*]};{split<;>simp[*]}}}
theorem aPE (a b c d:Int):aAq a b c d=.gt↔kO a b c d=1:=by
 unfold aAq kO;split;{simp};{split;{simp};{rw[rj];split;{constructor;{intro h;omega};{intro h;cases h}};{split<;>simp[*]}}}
theorem aPD (a b c d:Int):aAq a b c d=.eq↔kO a b c d=0:=by
 unfold aAq kO;split;{simp};{split;{simp};{rw[ri];split;{constructor;{intro h;omega};{intro h;cases h}};{split;{constructor;{intro h;omega};{intro h;cases h}};{constructor;{intro _;rfl};{intro _;omega}}}}}
theorem aKW (a b:Nat):ltF a b=true↔(cl a≠2/\cl b≠2)/\kO (cl a) (kv a) (cl b) (kv b)=-1:=by
 unfold ltF;rw[aAs];by_cases h:cl a=2\/cl b=2;{rw[ae h];constructor;{intro c;cases c};{rintro⟨⟨d,e⟩,_⟩;rcases h with h|h<;>contradiction}};{rw[ac h];have c:=ic.1 h;rw[cv,fe,aPF];exact⟨fun x=>⟨⟨c.1,c.2⟩,x⟩,fun x=>x.2⟩}
theorem aF3 (a b:Nat):gtF a b=true↔(cl a≠2/\cl b≠2)/\kO (cl a) (kv a) (cl b) (kv b)=1:=by
 unfold gtF;rw[aAs];by_cases h:cl a=2\/cl b=2;{rw[ae h];constructor;{intro c;cases c};{rintro⟨⟨d,e⟩,_⟩;rcases h with h|h<;>contradiction}};{rw[ac h];have c:=ic.1 h;rw[cv,fe,aPE];exact⟨fun x=>⟨⟨c.1,c.2⟩,x⟩,fun x=>x.2⟩}
theorem aCu (a b:Nat):(FloatKind.f64.format.order a b==some .eq)=true↔(cl a≠2/\cl b≠2)/\kO (cl a) (kv a) (cl b) (kv b)=0:=by
 rw[aAs];by_cases h:cl a=2\/cl b=2;{rw[ae h];constructor;{intro c;cases c};{rintro⟨⟨d,e⟩,_⟩;rcases h with h|h<;>contradiction}};{rw[ac h];have c:=ic.1 h;rw[cv,fe,aPD];exact⟨fun x=>⟨⟨c.1,c.2⟩,x⟩,fun x=>x.2⟩}
open Go.RowKit
theorem rP (a:I)(l:U)(h:a.data.toList=l):a=⟨l.toArray⟩:=by
 subst h;rfl
theorem fM (a b:I):(a++b).data.toList=a.data.toList++b.data.toList:=by simp
theorem jN {a:I}{l:U}(h:a.data.toList=l):Ending.returned (.string a)=.returned (.string ⟨l.toArray⟩):=by rw[rP a l h]
theorem qM (n:Int)(w:H)(T:aA w)(a:-9223372036854775808<=n)(b:n<=9223372036854775807) :
    Y 116 #[.int .i64 n] w (O (.string ⟨(Lib.itoa n).toArray⟩) w):=by
 refine(Tryz.strconv_Itoa n a b w T.u10).mono ?_;rintro e w' ⟨rfl,k,os,rfl⟩;refine⟨rfl,rfl,rfl,rfl,?_,?_⟩;{show w.heap.size<=(w.heap++os).size;simp};{intro j c;show(w.heap++os)[j]?=w.heap[j]?;rw[l8 c]}
theorem qN (n:Int)(a:-9223372036854775808<=n)(b:n<=9223372036854775807):(Lib.itoa n).length<=21:=by
 unfold Lib.itoa;split;{rw[bw,eo];have:=iV n.natAbs (by omega);omega};{rw[eo];have:=iV n.toNat (by omega);omega}
structure xO (b:Nat):Prop where
  real:(FloatKind.f64.format.order b b !=some .eq)=false
  fin:nS b=false
  nz:(FloatKind.f64.format.order b 0==some .eq)=false
  pos:(FloatKind.f64.format.order b 0==some .lt)=false
theorem aE4 (b:Nat)(txt hd q:U)(d:UInt8)(x:Int)(w:H)(T:aA w)(p:nZ b txt)(c:nB txt [d] x hd q)(a:xO b)(hx:x+1 < -5) :
    Y 63 #[.float .f64 b] w (O (.string ⟨(d :: [101,45]++Lib.itoa (-x)).toArray⟩) w):=by
 have u:=Z p;have l:=Z T;have y:=Z c;have x1:=c.lo;have x2:=c.hi;have E:=a.real;have F:=a.nz;have J:=a.pos;have m:=fun w=>iT b false w a.fin;have v:=Z m;obtain⟨s,i⟩:∃s:I,s=⟨[d].toArray⟩:=⟨_,rfl⟩;have f:s.data.toList=[d]:=by{rw[i]};have D:s.size=1:=by{rw[aY,f];rfl};obtain⟨s1,h,M,n⟩:=rQ s 1 (by omega);have c1:∀w,(Instr.slice 9 (.string s) none (some (.int .i64 1)) none).run Tryz.prog w=.ok (.string s1) w:=n;rw[f]at h;have z:=Z i;have B:=Z f;have t:=Z h;clear p T c a m i f h n;go_enter Tryz.func63,Tryz.ntmps63;go_wp2_with (go_at_call 67;((with_reducible refine(v.o _).mono ?_);rintro e w' ⟨rfl,rfl⟩));refine(mQ b txt [d] hd q x _ l.o u.o y.o).mono ?_;rw[<-z.o];rintro e K ⟨rfl,g⟩;have k:=Z g;have A:=Z (l.o.below g (ag _));clear g;go_wp2_with fail;have C:=qN (1-(x+1)) (by omega) (by omega);refine(qM (1-(x+1)) _ A.o (by omega) (by omega)).mono ?_;rintro e L ⟨rfl,j⟩;have r:=Z (k.o.trans (j.mono k.o.size));clear j;go_wp2;go_ret;refine⟨jN ?_,r.o⟩;simp only[fM];rw[t.o,show 1-(x+1)=-x by omega];simp
theorem aE5 (b:Nat)(txt hd q:U)(d:UInt8)(x:Int)(w:H)(T:aA w)(p:nZ b txt)(c:nB txt [d] x hd q)(a:xO b)(hx:21<x+1) :
    Y 63 #[.float .f64 b] w (O (.string ⟨(d :: [101,43]++Lib.itoa x).toArray⟩) w):=by
 have u:=Z p;have l:=Z T;have y:=Z c;have x1:=c.lo;have x2:=c.hi;have E:=a.real;have F:=a.nz;have J:=a.pos;have m:=fun w=>iT b false w a.fin;have v:=Z m;obtain⟨s,i⟩:∃s:I,s=⟨[d].toArray⟩:=⟨_,rfl⟩;have f:s.data.toList=[d]:=by{rw[i]};have D:s.size=1:=by{rw[aY,f];rfl};obtain⟨s1,h,M,n⟩:=rQ s 1 (by omega);have c1:∀w,(Instr.slice 9 (.string s) none (some (.int .i64 1)) none).run Tryz.prog w=.ok (.string s1) w:=n;rw[f]at h;have z:=Z i;have B:=Z f;have t:=Z h;clear p T c a m i f h n;go_enter Tryz.func63,Tryz.ntmps63;go_wp2_with (go_at_call 67;((with_reducible refine(v.o _).mono ?_);rintro e w' ⟨rfl,rfl⟩));refine(mQ b txt [d] hd q x _ l.o u.o y.o).mono ?_;rw[<-z.o];rintro e K ⟨rfl,g⟩;have k:=Z g;have A:=Z (l.o.below g (ag _));clear g;go_wp2_with fail;have C:=qN x (by omega) (by omega);refine(qM x _ A.o (by omega) (by omega)).mono ?_;rintro e L ⟨rfl,j⟩;have r:=Z (k.o.trans (j.mono k.o.size));clear j;go_wp2;go_ret;refine⟨jN ?_,r.o⟩;simp only[fM];rw[t.o];simp
theorem aDW (b k:Nat)(txt hd u:U)(d:UInt8)(D:U)(x:Int)(w:H)(T:aA w)(t:nZ b txt)(f:nB txt (d :: D) x hd u)(a:xO b)(hx:x+1 < -5)(J:D.length=k)(k1:1<=k)(k2:k<=20) :
    Y 63 #[.float .f64 b] w (O (.string ⟨(d :: 46 :: D++[101,45]++Lib.itoa (-x)).toArray⟩) w):=by
 have A:=Z t;have n:=Z T;have C:=Z f;have x1:=f.lo;have x2:=f.hi;have P:=a.real;have Q:=a.nz;have R:=a.pos;have p:=fun w=>iT b false w a.fin;have B:=Z p;obtain⟨s,j⟩:∃s:I,s=⟨(d :: D).toArray⟩:=⟨_,rfl⟩;have c:s.data.toList=(d :: D):=by{rw[j]};have N:s.size=k+1:=by{rw[aY,c];simp[J]};obtain⟨s1,h,W,q⟩:=rQ s 1 (by omega);have c1:∀w,(Instr.slice 9 (.string s) none (some (.int .i64 1)) none).run Tryz.prog w=.ok (.string s1) w:=q;rw[c]at h;obtain⟨K,i,X,r⟩:=gO s 1 (by omega);have c2:∀w,(Instr.slice 9 (.string s) (some (.int .i64 1)) none none).run Tryz.prog w=.ok (.string K) w:=r;rw[c]at i;have z:=Z i;clear i r;have E:=Z j;have L:=Z c;have y:=Z h;clear t T f a p j c h q;go_enter Tryz.func63,Tryz.ntmps63;go_wp2_with (go_at_call 67;((with_reducible refine(B.o _).mono ?_);rintro e w' ⟨rfl,rfl⟩));refine(mQ b txt (d :: D) hd u x _ n.o A.o C.o).mono ?_;rw[<-E.o];rintro e S ⟨rfl,g⟩;have m:=Z g;have F:=Z (n.o.below g (ag _));clear g;go_wp2_with fail;have M:=qN (1-(x+1)) (by omega) (by omega);refine(qM (1-(x+1)) _ F.o (by omega) (by omega)).mono ?_;rintro e V ⟨rfl,l⟩;have v:=Z (m.o.trans (l.mono m.o.size));clear l;go_wp2;go_ret;refine⟨jN ?_,v.o⟩;simp only[fM];rw[y.o,z.o,show 1-(x+1)=-x by omega];simp
theorem aDX (b k:Nat)(txt hd u:U)(d:UInt8)(D:U)(x:Int)(w:H)(T:aA w)(t:nZ b txt)(f:nB txt (d :: D) x hd u)(a:xO b)(hx:21<x+1)(J:D.length=k)(k1:1<=k)(k2:k<=20) :
    Y 63 #[.float .f64 b] w (O (.string ⟨(d :: 46 :: D++[101,43]++Lib.itoa x).toArray⟩) w):=by
 have A:=Z t;have n:=Z T;have C:=Z f;have x1:=f.lo;have x2:=f.hi;have P:=a.real;have Q:=a.nz;have R:=a.pos;have p:=fun w=>iT b false w a.fin;have B:=Z p;obtain⟨s,j⟩:∃s:I,s=⟨(d :: D).toArray⟩:=⟨_,rfl⟩;have c:s.data.toList=(d :: D):=by{rw[j]};have N:s.size=k+1:=by{rw[aY,c];simp[J]};obtain⟨s1,h,W,q⟩:=rQ s 1 (by omega);have c1:∀w,(Instr.slice 9 (.string s) none (some (.int .i64 1)) none).run Tryz.prog w=.ok (.string s1) w:=q;rw[c]at h;obtain⟨K,i,X,r⟩:=gO s 1 (by omega);have c2:∀w,(Instr.slice 9 (.string s) (some (.int .i64 1)) none none).run Tryz.prog w=.ok (.string K) w:=r;rw[c]at i;have z:=Z i;clear i r;have E:=Z j;have L:=Z c;have y:=Z h;clear t T f a p j c h q;go_enter Tryz.func63,Tryz.ntmps63;go_wp2_with (go_at_call 67;((with_reducible refine(B.o _).mono ?_);rintro e w' ⟨rfl,rfl⟩));refine(mQ b txt (d :: D) hd u x _ n.o A.o C.o).mono ?_;rw[<-E.o];rintro e S ⟨rfl,g⟩;have m:=Z g;have F:=Z (n.o.below g (ag _));clear g;go_wp2_with fail;have M:=qN x (by omega) (by omega);refine(qM x _ F.o (by omega) (by omega)).mono ?_;rintro e V ⟨rfl,l⟩;have v:=Z (m.o.trans (l.mono m.o.size));clear l;go_wp2;go_ret;refine⟨jN ?_,v.o⟩;simp only[fM];rw[y.o,z.o];simp
open Go.RowKit
theorem aE6 (n:Nat):Lib.repeatL [48] n=List.replicate n 48:=by
 induction n with|zero=>rfl|succ n ih=>{rw[Lib.repeatL,ih];rfl}
theorem aCY (n:Int)(w:H)(a:0<=n)(b:n<=1000) :
    Y 115 #[.string { data:=#[48] },.int .i64 n] w (O (.string ⟨(List.replicate n.toNat (48:UInt8)).toArray⟩) w):=by
  obtain⟨c,rfl⟩:∃c:Nat,n=c:=⟨n.toNat,by omega⟩
  refine (Tryz.strings_Repeat { data := #[48] } c w (by omega) (by have e : ({ data := #[48] } : I).size = 1 := rfl
                                                                   rw [e]; omega)).mono ?_
  rintro e w' ⟨rfl,h⟩;refine⟨?_,h⟩;rw[show({ data:=#[48] }:I).data.toList=[48]from rfl,aE6,fh]
theorem aHq (b:Nat)(txt hd p D:U)(x:Int)(w:H)(T:aA w)(n:nZ b txt)(c:nB txt D x hd p)(a:xO b)(E:(D.length:Int)<=x+1)(hx:x+1<=21) :
    Y 63 #[.float .f64 b] w (O (.string ⟨(D++List.replicate (x+1-D.length).toNat 48).toArray⟩) w):=by
 obtain⟨k,d⟩:=ex D.length;rw[<-d]at E ⊢;have t:=Z n;have C:=Z T;have v:=Z c;have x1:=c.lo;have x2:=c.hi;have K:=a.real;have L:=a.nz;have M:=a.pos;have m:=fun w=>iT b false w a.fin;have u:=Z m;obtain⟨s,g⟩:∃s:I,s=⟨D.toArray⟩:=⟨_,rfl⟩;have h:s.data.toList=D:=by{rw[g]};have J:s.size=k:=by{rw[aY,h,d]};have A:=Z g;have B:=Z h;clear n T c a m g h d;go_enter Tryz.func63,Tryz.ntmps63;go_wp2_with (go_at_call 67;((with_reducible refine(u.o _).mono ?_);rintro e w' ⟨rfl,rfl⟩));refine(mQ b txt D hd p x _ C.o t.o v.o).mono ?_;rw[<-A.o];rintro e N ⟨rfl,i⟩;have l:=Z i;clear i;obtain⟨r,hr⟩:∃r:I,r=⟨(List.replicate (x+1-k).toNat (48:UInt8)).toArray⟩:=⟨_,rfl⟩;have f:r.data.toList=List.replicate (x+1-k).toNat 48:=by{rw[hr]};have F:r.size<=1000:=by{rw[aY,f,i7];omega};have y:=Z hr;have z:=Z f;clear hr f;go_wp2_with fail;refine(aCY (x+1-k) _ (by omega) (by omega)).mono ?_;rw[<-y.o];rintro e P ⟨rfl,j⟩;have q:=Z (l.o.trans (j.mono l.o.size));clear j;go_wp2;go_ret;refine⟨jN ?_,q.o⟩;simp only[fM];rw[B.o,z.o]
theorem aI5 (b:Nat)(txt hd p D:U)(x:Int)(w:H)(T:aA w)(n:nZ b txt)(c:nB txt D x hd p)(a:xO b)(F:D.length<=30)(E:1<=D.length)(hx:x+1<=0)(K:-5<=x+1) :
    Y 63 #[.float .f64 b] w (O (.string ⟨([48,46]++List.replicate (-(x+1)).toNat 48++D).toArray⟩) w):=by
 obtain⟨k,d⟩:=ex D.length;rw[<-d]at F E;have t:=Z n;have C:=Z T;have v:=Z c;have x1:=c.lo;have x2:=c.hi;have Q:=a.real;have R:=a.nz;have S:=a.pos;have m:=fun w=>iT b false w a.fin;have u:=Z m;obtain⟨s,g⟩:∃s:I,s=⟨D.toArray⟩:=⟨_,rfl⟩;have h:s.data.toList=D:=by{rw[g]};have P:s.size=k:=by{rw[aY,h,d]};have A:=Z g;have B:=Z h;clear n T c a m g h d;have J:¬(k:Int)<=x+1:=by{omega};have L:decide ((k:Int)<=x+1)=false:=bp J;have M:decide (1<=x+1)=false:=bp (by omega);go_enter Tryz.func63,Tryz.ntmps63;go_wp2_with (go_at_call 67;((with_reducible refine(u.o _).mono ?_);rintro e w' ⟨rfl,rfl⟩));refine(mQ b txt D hd p x _ C.o t.o v.o).mono ?_;rw[<-A.o];rintro e V ⟨rfl,i⟩;have l:=Z i;clear i;obtain⟨r,hr⟩:∃r:I,r=⟨(List.replicate (-(x+1)).toNat (48:UInt8)).toArray⟩:=⟨_,rfl⟩;have f:r.data.toList=List.replicate (-(x+1)).toNat 48:=by{rw[hr]};have N:r.size<=1000:=by{rw[aY,f,i7];omega};have y:=Z hr;have z:=Z f;clear hr f;go_wp2_with fail;refine(aCY (-(x+1)) _ (by omega) (by omega)).mono ?_;rw[<-y.o];rintro e W ⟨rfl,j⟩;have q:=Z (l.o.trans (j.mono l.o.size));clear j;go_wp2;go_ret;refine⟨jN ?_,q.o⟩;simp only[fM];rw[B.o,z.o];rfl
theorem aHp (b:Nat)(txt hd u D:U)(x:Int)(w:H)(T:aA w)(r:nZ b txt)(d:nB txt D x hd u)(a:xO b)(K:x+1<(D.length:Int))(Q:1<=x+1)(hx:x+1<=21)(L:D.length<=30) :
    Y 63 #[.float .f64 b] w (O (.string ⟨(D.take (x+1).toNat++[46]++D.drop (x+1).toNat).toArray⟩) w):=by
 obtain⟨k,i⟩:=ex D.length;rw[<-i]at K L;have A:=Z r;have J:=Z T;have C:=Z d;have x1:=d.lo;have x2:=d.hi;have S:=a.real;have V:=a.nz;have W:=a.pos;have m:=fun w=>iT b false w a.fin;have B:=Z m;obtain⟨s,j⟩:∃s:I,s=⟨D.toArray⟩:=⟨_,rfl⟩;have c:s.data.toList=D:=by{rw[j]};have R:s.size=k:=by{rw[aY,c,i]};obtain⟨p,f⟩:∃p:Nat,x+1=p:=⟨(x+1).toNat,by omega⟩;obtain⟨s1,g,z1,n⟩:=rQ s p (by omega);have c1:∀w,(Instr.slice 9 (.string s) none (some (.int .i64 (x+1))) none).run Tryz.prog w=.ok (.string s1) w:=by{rw[f];exact n};rw[c]at g;obtain⟨t,h,z2,q⟩:=gO s p (by omega);have c2:∀w,(Instr.slice 9 (.string s) (some (.int .i64 (x+1))) none none).run Tryz.prog w=.ok (.string t) w:=by{rw[f];exact q};rw[c]at h;have N:s1.size<=30:=by{omega};have P:t.size<=30:=by{omega};have y:=Z g;have z:=Z h;have E:=Z f;clear g h n q f;have F:=Z j;have M:=Z c;clear r T d a m j c i;go_enter Tryz.func63,Tryz.ntmps63;go_wp2_with (go_at_call 67;((with_reducible refine(B.o _).mono ?_);rintro e w' ⟨rfl,rfl⟩));refine(mQ b txt D hd u x _ J.o A.o C.o).mono ?_;rw[<-F.o];rintro e X ⟨rfl,l⟩;have v:=Z l;clear l;go_wp2_with fail;go_quiet (fail);go_wp2;go_ret;refine⟨jN ?_,v.o.trans ⟨rfl,rfl,rfl,ag _,fun _ _=>rfl⟩⟩;simp only[fM];rw[y.o,z.o,E.o,fh]
theorem yU (b:Nat)(w:H)(f:(FloatKind.f64.format.order b b !=some .eq)=false)(c:nS b=false)(g:(FloatKind.f64.format.order b 0==some .eq)=true) :
    Y 63 #[.float .f64 b] w fun e w'=>e=.returned (.string { data:=#[48] })/\w=w':=by
  have a:=fun w=>iT b false w c
  have d:=Z a;clear a c;go_enter Tryz.func63,Tryz.ntmps63
  go_wp2_with (go_at_call 67;((with_reducible refine(d.o _).mono ?_);rintro e w' ⟨rfl,rfl⟩))
  go_ret;exact⟨rfl,rfl⟩
theorem aFU:FloatKind.f64.format.fractionBits=52:=by kernel_rfl
theorem aCy:FloatKind.f64.format.binade=4503599627370496:=by kernel_rfl
theorem aHZ:FloatKind.f64.format.infRung=2047*4503599627370496:=by kernel_rfl
theorem aFV:FloatKind.f64.format.signWeight=9223372036854775808:=by kernel_rfl
theorem aOD (b:Nat)(h:b<9223372036854775808):vR b=b:=by
 unfold vR;have e:bits .andNot .u64 (b:Int) 9223372036854775808=(b:Int):=by{show IntKind.u64.wrap ((BitVec.ofInt 64 (b:Int) &&& ~~~BitVec.ofInt 64 9223372036854775808).toNat:Int)=_;have a:(2:Nat)^63=9223372036854775808:=by{decide};rw[BitVec.toNat_and,ofInt_u64 b (by omega),show(~~~BitVec.ofInt 64 9223372036854775808).toNat=2^63-1 by decide,jq,l9 (by omega),dV];omega};rw[e,fh]
