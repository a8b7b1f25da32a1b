/-
internal/strconv.setDigits: the digits of a number in a buffer, and how many there are without the noughts at the end.
-/
import Derived.Test.YtcfgbdhpcboikaaGreatDoorShortB
import Derived.Test.YtcfgbdhpcboikaaGreatDoorSched
import Derived.Lib.SmallJoins
namespace Go.Proofs.YtcfgbdhpcboikaaGreatDoor
set_option maxHeartbeats 16000000
set_option maxRecDepth 100000
open Go.RowKit Go.Sort
theorem tP {n:Nat}:n<=n:=ah n
def bT (l:U):Nat:=(l.reverse.dropWhile (· == 48)).length
theorem jA (l:U):bT l<=l.length:=by
 unfold bT;have:∀(r:U),(r.dropWhile (· == 48)).length<=r.length:=by{intro r;induction r with|nil=>simp|cons a r ih=>{rw[lu];split<;>simp<;>omega}};have:=this l.reverse;simpa using this
theorem mH (l:U)(c:UInt8):bT (l++[c])=if c=48 then bT l else l.length+1:=by
 unfold bT;rw[rg,ui,kr,lu];by_cases h:c=48;{simp[h]};{simp[h]}
theorem aK0 (l:U)(k:Nat)(b:k<l.length)(h:l[k]=48)(c:bT (l.take (k+1))=bT l):bT (l.take k)=bT l:=by
 rw[<-c,fl b,mH,af h]
theorem aKZ (l:U)(k:Nat)(b:k<l.length)(h:l[k]≠48)(c:bT (l.take (k+1))=bT l):bT l=k+1:=by
 rw[<-c,fl b,mH,ae h,bu];omega
theorem gR (u:Nat)(h:u<18446744073709551616):Lib.nDigits u<=20:=by
 have d:=f7 u;rcases ak 20 (Lib.nDigits u)with b|b;{exfalso;by_cases c:u=0;{rw[c,ip (by omega)]at b;omega};{have:=Lib.numDigits_eq u (by omega) h;have e:(if 10^Lib.l10 (Lib.bitLen u)<=u then 1 else 0)<=1:=by{split<;>omega};omega}};{exact b}
theorem aGw (w:H)(g d:Nat)(dk:Array UInt8):aD (· = g) w (putRow (fun(b:UInt8)=>Value.int .u8 (b.toNat:Int)) w g d dk) :=
 ⟨rfl,rfl,rfl,by simp,fun k _ c=>by
  show(w.heap.modify g _)[k]?=_;rw[vq,ae (fun e=>c e.symm)]⟩
theorem aIj (w:H)(g n c h:Nat)(b:h<=c):(Instr.slice 35 (.slice (some ⟨g,0,none⟩) n c) none (some (.int .i64 h)) none).run Tryz.prog w=.ok (.slice (some ⟨g,0,none⟩) h c) w:=by
 exact aKy 35 5 Tryz.underlying35 (by kernel_rfl) w _ n c h b
theorem wZ (g d K:Nat)(p:Int)(N:Nat)(w:H)(S:Holds (fun(b:UInt8)=>Value.int .u8 (b.toNat:Int)) w g 0 (Array.replicate K 0))(hK:20<=K)(_hd1:1<=d)(hd:d<18446744073709551616)(m:Lib.nDigits d=N)(p1:-2000<=p)(p2:p<=2000) :
  Y 259 #[.slice (some ⟨g,0,none⟩) K K,.int .u64 d,.int .i64 p,.int .i64 N] w
   fun e w'=>e=.returned (.tuple #[.int .i64 (N+p),.int .i64 (bT (Lib.decDigits d):Nat)])/\IsB w' (some ⟨g,0,none⟩) (Lib.decDigits d)/\aD (· = g) w w':=by
 have a5:N<=20:=by rw[<-m];exact gR d hd
 have a3:1<=N:=by rw[<-m];exact f7 d
 have A:Holds (fun(b:UInt8)=>Value.int .u8 (b.toNat:Int)) w g 0 (Array.replicate N 0):=by
  intro j f;have a4:j<N:=by simpa using f
  have:=S j (by simp;omega);rw[ib _ j (by simp;omega)]at this
  rw[ib _ j f];simpa using this
 have X:d<10^(Array.replicate N (0:UInt8)).size:=by rw[vr,<-m];exact nn d
 have r:=fun cap=>Tryz.internal_strconv_formatBase10 g 0 cap d (Array.replicate N 0) w A X hd (by simp;omega)
 rw[vr]at r
 have c1:=fun w=>aIj w g K K N (by omega)
 have T:(Lib.decDigits d).length=N:=by rw[dv,m]
 have ac:=Z r;have ad:=Z A;have an:=Z m;have h:=Z T;clear r X A S m T;go_enter Tryz.func259,Tryz.ntmps259
 go_wp2_with fail
 refine(ac.o _).mono ?_;rintro e w1 ⟨rfl,n,v',dk,E,F⟩;have M:aD (· = g) w w1:=by rw[E];exact(aGw w g 0 dk).drewN n
 have V:dk.size=N:=F.size;have R:IsB w1 (some ⟨g,0,none⟩) (Lib.decDigits d):=by
  intro j b q;have f:j<N:=by
   rcases ak j N with z|z
   ·exact z
   ·rw[ew (by rw[h.o];exact z)]at q;cases q
  refine⟨_,rfl,?_⟩;rw[qd,E];have hr:=Lib.row_is_numeral (u:=d) (v':=v') (dk:=dk) (by rw[an.o];exact F) j (by rw[h.o];exact f);have aw:(Lib.decDigits d)[j]'(by rw[h.o];exact f)=b:=by
   rw[bc (by rw[h.o];exact f)]at q
   exact cy q
  show(putRow _ w g 0 dk).cell? ⟨g,0+j,none⟩=_;rw[cell?_putRow _ w g 0 (Array.replicate N 0) dk ad.o (by simpa using V) j (by omega),<-hr,aw];rfl
 have L:=Z M;have t:=Z R;clear M R V F E;go_wp2_with fail
 go_loopg [3] N (fun k nd wx=>∃(j:Nat),nd=.int .i64 j/\j<=N/\bT ((Lib.decDigits d).take j)=bT (Lib.decDigits d)/\k=j/\wx=w1)
 case atStart=>exact⟨N,rfl,ah _,by rw[fi (by rw[h.o];exact ah _)],rfl,rfl⟩
 case round =>
  obtain⟨j,rfl,f,ht,W,a2⟩:=hrel;subst a2;have v:=Z ht;have al:=Z W;clear ht W;by_cases y:j=0
  ·have hp:¬(0:Int)<j:=by omega
   have H0:=Z y;clear y;go_wp2
   go_ret2;refine⟨?_,t.o,L.o⟩;have:=v.o;rw[H0.o]at this ⊢
   rw[<-this];rfl
  ·obtain⟨i,hi⟩:∃i,j=i+1:=⟨j-1,by omega⟩
   subst hi;have D:i<(Lib.decDigits d).length:=by rw[h.o];omega
   have a1:=t.o i ((Lib.decDigits d)[i]) (bc D);obtain⟨x,hx,B⟩:=a1;cases hx;rw[qd]at B
   have a0:wr.cell? ⟨g,i,none⟩=some (.int .u8 ((Lib.decDigits d)[i].toNat)):=by simpa [dE]using B
   have ab:=aK0 (Lib.decDigits d) i D;have aa:=aKZ (Lib.decDigits d) i D;have av:=Z ab;have ao:=Z aa;clear B ab aa y;obtain⟨c,C⟩:∃c,(Lib.decDigits d)[i]=c:=⟨_,rfl⟩
   rw[C]at a0
   have J:=Z C;clear C;by_cases l:c=48
   ·have f1:((c.toNat:Int)==48)=true:=by rw[l];rfl
    have s:=Z l;clear l;go_wp2
    go_roundg i
    case measure=>have:=al.o;omega
    case rel=>exact⟨i,by go_num,by omega,av.o (by rw[J.o,s.o]) v.o,rfl,rfl⟩
   ·have f1:((c.toNat:Int)==48)=false:=ai.2 (by intro e;exact l (de.1 (by simp;omega)));have s:=Z l;clear l;go_wp2
    go_ret2;refine⟨?_,t.o,L.o⟩;rw[ao.o (by rw[J.o];exact s.o) v.o];rfl
open Go.RowKit
structure Out (w0 w:H) (B:Nat) (S:Nat->Prop) (ad:Option Addr) (c:Nat) (bs:U):Prop where
 own:iA w B 5 ad c bs
 kept:aD S w0 w
 lies:∀y,ad=some y->S y.block\/w0.heap.size<=y.block
 base:B<=w.heap.size
theorem Out.alloc {d w:H}{B:Nat}{S:Nat->Prop}{b:Option Addr}{c:Nat}{bs:U}(h:Out d w B S b c bs)(o:Obj):Out d (w.alloc o) B S b c bs :=
 ⟨h.own.kept ((aD.refl (fun _=>False) w).alloc o) (fun _ _ h=>h),h.kept.alloc o,h.lies,by have:=h.base;simp;omega⟩
theorem Out.drewN {d w:H}{B:Nat}{S:Nat->Prop}{b:Option Addr}{c:Nat}{bs:U}(h:Out d w B S b c bs)(n:Nat):Out d (w.drewN n) B S b c bs :=
 ⟨h.own.kept ((aD.refl (fun _=>False) w).drewN n) (fun _ _ h=>h),h.kept.drewN n,h.lies,h.base⟩
theorem Out.next {m w w':H}{B:Nat}{S:Nat->Prop}{d f:Option Addr}{c j:Nat}{n bs':U}(h:Out m w B S d c n)
  (q:iA w' B 5 f j bs') (l:aD (fun k=>d.map (·.block)=some k) w w') (p:∀y,f=some y->d.map (·.block)=some y.block\/w.heap.size<=y.block):Out m w' B S f j bs':=by
 have s:=h.kept.size;refine⟨q,h.kept.trans' l ?_,?_,bg h.base l.size⟩
 ·intro i hi e;cases d with
  | none=>cases e
  | some y =>
   have g:y.block=i:=by simpa using e
   rcases h.lies y rfl with b|b
   ·rwa[g]at b
   ·omega
 ·intro y r;rcases p y r with b|b
  ·cases d with
   | none=>cases b
   | some z =>
    have g:z.block=y.block:=by simpa using b
    rw[<-g];exact h.lies z rfl
  ·exact .inr (by omega)
section
variable {P:Program} {w:H} {ops:Array Oper} {rest:List Oper} {o:Oper} {a:Act} {Q:Exit->Act->H->Prop}
theorem tB (u:o.guard=none)(s x:Operand)(t:TypeId)
  (z:o.op=.call { callee:=.builtin .append,args:=#[s,x],argTypes:=#[t,t] })
  (i:TypeInfo) (E:P.underlying t=some (.slice 5)) (hi:P.info? 5=some i) (F:i.zero=some (.int .u8 0)) (C:i.size=1) (r:i.bytes=1)
  {l:H} {B:Nat} {S:Nat->Prop} (f:Option Addr) (n c:Nat) (d:U) (A:a.eval s=.slice f n c) (y:d.length=n) (g:Out l w B S f c d)
  (j:Option Addr) (m k:Nat) (cs:U) (hx:a.eval x=.slice j m k) (v:cs.length=m) (D:IsB w j cs) (J:n+m<=1000000)
  (h:∀b e w',G (Out l w' B S b e (d++cs))->wpList P ops Q rest (a.put o.dst (.slice b (n+m:Nat) e)) w'):wpList P ops Q (o :: rest) a w :=
 aDb u s x t z B 5 i E hi F C r f n c d A y g.own j m k cs hx v D (by omega) g.base
  (fun b e w' h1 p q=>h b e w' (show Out _ _ _ _ _ _ _ from g.next h1.o p q))
theorem aBl (u:o.guard=none)(s x:Operand)(t:TypeId)
  (z:o.op=.call { callee:=.builtin .append,args:=#[s,x],argTypes:=#[t,t] })
  (i:TypeInfo) (D:P.underlying t=some (.slice 5)) (hi:P.info? 5=some i) (J:i.zero=some (.int .u8 0)) (C:i.size=1) (r:i.bytes=1)
  {l d:H} {B:Nat} {S:Nat->Prop} (e:Option Addr) (n c:Nat) (b:U) (A:a.eval s=.slice e n c) (y:b.length=n) (p:Out l d B S e c b)
  (m j:Nat) (cs:U) (k:Array Value) (F:w=d.alloc (.cells k 5)) (E:k=(cs.map dE).toArray) (hx:a.eval x=.slice (some ⟨d.heap.size,0,none⟩) m j) (v:cs.length=m) (q:n+m<=1000000)
  (h:∀f g w',G (Out l w' B S f g (b++cs))->wpList P ops Q rest (a.put o.dst (.slice f (n+m:Nat) g)) w'):wpList P ops Q (o :: rest) a w:=by
 subst F;subst E;exact tB u s x t z i D hi J C r e n c b A y (p.alloc _) _ m j cs hx v (IsB.of_heap (arr:=cs) (cc d _) 0) q h
end
def cK (x:Nat):U :=
 if x<10 then [48,UInt8.ofNat (x+48)]else if x<100 then [UInt8.ofNat (x / 10+48),UInt8.ofNat (x%10+48)]
 else [UInt8.ofNat (x / 100+48),UInt8.ofNat (x / 10%10+48),UInt8.ofNat (x%10+48)]
def eS (D:U)(x:Int):U :=
 D.take 1++(if 1<D.length then 46 :: D.drop 1 else [])++[101,if x<0 then 45 else 43]++cK x.natAbs
open Go.RowKit
theorem aFb:(Tryz.prog.info? 5).map (fun i=>(i.zero,i.size,i.bytes))=some (some (.int .u8 0),1,1):=by kernel_rfl
theorem aRK:(Tryz.prog.info? 5).map (·.size)=some 1:=by kernel_rfl
theorem pA (x:Nat)(h:x<256):dE (UInt8.ofNat x)=.int .u8 (x:Int):=by
 unfold dE;rw[mi (by simpa using h)]
theorem aH2 (z:Value)(x:Nat)(h:x<256)(b:z=.int .u8 (x:Int)):(#[.int .u8 48,z]:Array Value)=([48,UInt8.ofNat x].map dE).toArray:=by
 rw[cg,cg,fa,pA x h,b];rfl
theorem aK3 (b c:Value)(x y:Nat)(hx:x<256)(f:y<256)(d:b=.int .u8 (x:Int))(e:c=.int .u8 (y:Int)):(#[b,c]:Array Value)=([UInt8.ofNat x,UInt8.ofNat y].map dE).toArray:=by
 rw[cg,cg,fa,pA x hx,pA y f,d,e]
theorem aGO (b c d:Value)(x y z:Nat)(hx:x<256)(h:y<256)(i:z<256)(e:b=.int .u8 (x:Int))(f:c=.int .u8 (y:Int))(g:d=.int .u8 (z:Int)):(#[b,c,d]:Array Value)=([UInt8.ofNat x,UInt8.ofNat y,UInt8.ofNat z].map dE).toArray:=by
 rw[cg,cg,cg,fa,pA x hx,pA y h,pA z i,e,f,g]
theorem aKq {a:Option Addr}{n m c:Nat}(h:n=m):Ending.returned (.slice a n c)=.returned (.slice a m c):=by rw[h]
def uR (w:H)(B:Nat)(S:Nat->Prop)(bs:U)(e:Ending)(w':H):Prop :=
 ∃ad c,e=.returned (.slice ad bs.length c)/\Out w w' B S ad c bs
section
variable {w:H} {ops:Array Oper} {rest:List Oper} {o:Oper} {a:Act} {Q:Exit->Act->H->Prop}
theorem vT (p:o.guard=none)(s x:Operand)(t:o.op=.call { callee:=.builtin .append,args:=#[s,x],argTypes:=#[35,35] })
  {j f:H} {B:Nat} {S:Nat->Prop} {d:Option Addr} {n c:Nat} {b:U} (u:a.eval s=.slice d n c) (r:b.length=n) (k:G (Out j f B S d c b))
  (m:Nat) (cs:U) (e:Array Value) (y:w=f.alloc (.cells e 5)) (v:e=(cs.map dE).toArray) (hx:a.eval x=.slice (some ⟨f.heap.size,0,none⟩) m m) (q:cs.length=m) (l:n+m<=1000000)
  (h:∀g i w',G (Out j w' B S g i (b++cs))->wpList Tryz.prog ops Q rest (a.put o.dst (.slice g (n+m:Nat) i)) w'):wpList Tryz.prog ops Q (o :: rest) a w:=by
 obtain⟨D,hi,z,A,C⟩:=cx aFb;exact aBl p s x 35 t D Tryz.underlying35 hi z A C d n c b u r k.o m m cs e y v hx q l h
theorem aRP (q:o.guard=none)(s x:Operand)(u:o.op=.call { callee:=.builtin .append,args:=#[s,x],argTypes:=#[35,35] })
  {j:H} {B:Nat} {S:Nat->Prop} {d:Option Addr} {n c:Nat} {b:U} (v:a.eval s=.slice d n c) (t:b.length=n) (l:G (Out j w B S d c b))
  (e:Option Addr) (m i:Nat) (cs:U) (hx:a.eval x=.slice e m i) (r:cs.length=m) (k:IsB w e cs) (p:n+m<=1000000)
  (h:∀f g w',G (Out j w' B S f g (b++cs))->wpList Tryz.prog ops Q rest (a.put o.dst (.slice f (n+m:Nat) g)) w'):wpList Tryz.prog ops Q (o :: rest) a w:=by
 obtain⟨C,hi,y,z,A⟩:=cx aFb;exact tB q s x 35 u C Tryz.underlying35 hi y z A d n c b v t l.o e m i cs hx r k p h
end
theorem aDl (d:UInt8)(x:Int):eS [d] x=d :: [101,if x<0 then 45 else 43]++cK x.natAbs:=by simp[eS]
theorem aBD (d:UInt8)(D:U)(x:Int)(h:1<=D.length):eS (d :: D) x=d :: 46 :: D++[101,if x<0 then 45 else 43]++cK x.natAbs:=by
 have:1<(d :: D).length:=by{simp;omega};unfold eS;rw[af this];simp
theorem aHK (d:UInt8)(D:U)(z:Nat)(x:Int):eS (d :: D++List.replicate z 48) x=(d :: if D.length+z=0 then []else 46 :: (D++List.replicate z 48))++[101,if x<0 then 45 else 43]++cK x.natAbs:=by
 split;{rename_i h;obtain rfl:D=[]:=fj (by omega);obtain rfl:z=0:=by{simp at h;omega};exact aDl d x};{rename_i h;have:=aBD d (D++List.replicate z 48) x (by simp;omega);simpa using this}
theorem aNk (w:H)(B g k z K:Nat)(ad:Option Addr)(c:Nat)(S:Nat->Prop)(D:U)(dp:Int)(sh:Bool)(hO:Out w w B S ad c [])(hI:IsB w (some ⟨g,0,none⟩) D)(hg:¬S g)(_hgs:g<w.heap.size)
  (t:D.length=k+1) (k2:k+z<=20) (hK:k+2<=K) (a3:K<=40) (x1:-999<=dp-1) (x2:dp-1<=999) :
  Y 257 #[.slice ad 0 c,.bool false,.slice (some ⟨g,0,none⟩) K K,.int .i64 dp,.int .i64 ((k:Int)+1),.int .i64 ((k:Int)+z),.int .u8 101,.bool sh] w (uR w B S (eS (D++List.replicate z 48) (dp-1))):=by
 obtain⟨d,D',rfl⟩:∃d D',D=d :: D':=by{cases D with|nil=>simp at t|cons d D'=>exact⟨d,D',rfl⟩};rw[aHK];have ab:D'.length=k:=by{simpa using t};have HO:=Z hO;have HI:=Z hI;have a4:w.cell? ⟨g,0,none⟩=some (.int .u8 d.toNat):=by{obtain⟨x,hx,hc⟩:=hI 0 d rfl;cases hx;exact hc};have ac:G (IsB w (some ⟨g,1,none⟩) D'):=by{have:=IsB.cut hI 1 K (by rw[t];omega);rw[ae (by omega)]at this;exact this};clear hO hI t;have hcut:∀w,(Instr.slice 35 (.slice (some ⟨g,0,none⟩) K K) (some (.int .i64 1)) (some (.int .i64 ((k:Int)+1))) none).run Tryz.prog w=.ok (.slice (some ⟨g,1,none⟩) k (K-1)) w:=by{intro w;have:=wN 35 5 Tryz.underlying35 aRK w (some ⟨g,0,none⟩) K K 1 (k+1) (by omega) (by omega);rw[ae (by omega)]at this;exact this};have f1:(((k:Int)+1)==0)=false:=ai.2 (by omega);have f2:(((k:Int)+1) !=0)=true:=ct.2 (by omega);have hm:min ((k:Int)+1) ((k:Int)+z+1)=(k:Int)+1:=by{omega};have f:=Z ab;clear ab;obtain⟨e,he⟩:∃e,dp-1=e:=⟨_,rfl⟩;obtain⟨x,hx⟩:∃x,e.natAbs=x:=⟨_,rfl⟩;rw[he,hx];obtain⟨bs,q⟩:∃bs,(d :: if D'.length+z=0 then []else 46 :: (D'++List.replicate z 48))=bs:=⟨_,rfl⟩;rw[q];have A:=Z q;obtain⟨LL,N⟩:∃LL,bs.length=LL:=⟨_,rfl⟩;have b:=Z N;have a6:LL<=30:=by{rw[<-N,<-q];have:=f.o;split<;>simp<;>omega};clear q N;obtain⟨sg,V⟩:∃sg:UInt8,(if e<0 then (45:UInt8)else 43)=sg:=⟨_,rfl⟩;rw[V];have aw:x<10\/10<=x/\x<100\/100<=x/\x<1000:=by{omega};go_enter Tryz.func257,Tryz.ntmps257;go_upto_if 92 with(at_builtin;refine vT (by rfl) (.tmp 87) (.tmp 89) (by rfl) (by rfl) rfl HO 1 [d] _ (by rfl) (by rfl) (by rfl) rfl (by simp;try omega) ?_;intro a0 c1 w1 X);go_cut [0] (fun s wx=>∃m p,s=.slice m LL p/\G (Out w wx B S m p bs))
 case first =>
  rcases gp (k+z)with h0|h0;{have l:bs=[d]:=by{rw[<-A.o,af (by have:=f.o;omega)]};have T:LL=1:=by{rw[<-b.o,l];rfl};subst l T;go_wp2;go_meet;exact⟨_,_,rfl,X⟩}
  ·have l:bs=d :: 46 :: (D'++List.replicate z 48):=by{rw[<-A.o,ae (by have:=f.o;omega)]};have T:LL=k+2+z:=by{rw[<-b.o,l];simp[f.o];omega};subst l T;clear A b;rcases ak k 1 with al|al
   all_goals
    go_wp2_with (first
     | (at_builtin;refine vT (by rfl) (.tmp 93) (.tmp 94) (by rfl) (by rfl) rfl X 1 [46] _ (by rfl) (by rfl) (by rfl) rfl (by have an:=f.o;simp;try omega) ?_;intro a1 c2 w2 C)
     | (at_builtin;refine aRP (by rfl) (.tmp 103) (.tmp 107) (by rfl) (by rfl) rfl C (some ⟨g,1,none⟩) k (K-1) D' (by rfl) f.o (IsB.kept ac.o C.o.kept (fun y hy _=>by cases hy;exact hg)) (by have an:=f.o;simp;try omega) ?_;intro m p w3 E))
   all_goals
    go_loopw [0,114] (fun r i wx=>∃(j n:Nat) (a:Option Addr) (L:Nat),r=.slice a n L/\i=.int .i64 j/\G (n=k+2+j/\j<=z/\Out w wx B S a L (d :: 46 :: D'++List.replicate j 48))) (fun _ i _=>z-(intOf i).toNat)
    case atStart =>
     refine⟨0,_,_,_,rfl,rfl,Z ⟨by omega,by omega,?_⟩⟩;first
     | simpa using E.o
     | (have:=f.o;have hD:D'=[]:=fj (by omega);rw[hD];simpa using C.o)
    case round =>
     obtain⟨j,n,a,L,rfl,rfl,R⟩:=hrel;have hn:=R.o.1;have W:=Z R.o.2.2;rcases ak j z with a7|a5
     ·go_wp2_with (at_builtin;refine vT (by rfl) (.tmp 116) (.tmp 117) (by rfl) (by rfl) (by have:=f.o;simp;omega) W 1 [48] _ (by rfl) (by rfl) (by rfl) rfl (by omega) ?_;intro aa c5 w5 h)
      go_roundw
      case rel=>exact⟨j+1,_,_,_,rfl,by go_num,Z ⟨by omega,by omega,by have:=h.o;rw[je];simpa using this⟩⟩
      case measure=>simp[intOf];omega
     ·obtain rfl:j=z:=by have:=R.o.2.1;omega
      go_wp2
      go_meet;exact⟨_,_,by rw[hn],by simpa using W⟩
 case rest =>
  obtain⟨m,p,rfl,E⟩:=hcut;have ao:e=(x:Int)/\sg=43\/e=-(x:Int)/\1<=x/\sg=45:=by{rw[<-V];by_cases u:e<0;{exact .inr ⟨by omega,by omega,af u⟩};{exact .inl ⟨by omega,ae u⟩}};clear V;rcases ao with⟨u,rfl⟩|⟨u,a8,rfl⟩;all_goals (rcases aw with v|⟨av,v⟩|⟨av,v⟩)
  all_goals
   go_wp2_with (first
    | (at_builtin;refine vT (by rfl) (.tmp 120) (.tmp 122) (by rfl) (by rfl) b.o E 1 [101] _ (by rfl) (by rfl) (by rfl) rfl (by omega) ?_;intro a2 c4 w4 O4)
    | (at_builtin;refine vT (by rfl) (.tmp 132) (.tmp 134) (by rfl) (by rfl) (by simp[b.o]) O4 1 [43] _ (by rfl) (by rfl) (by rfl) rfl (by omega) ?_;intro aa c5 w5 h)
    | (at_builtin;refine vT (by rfl) (.tmp 132) (.tmp 134) (by rfl) (by rfl) (by simp[b.o]) O4 1 [45] _ (by rfl) (by rfl) (by rfl) rfl (by omega) ?_;intro aa c5 w5 h)
    | (at_builtin;refine vT (by rfl) (.tmp 155) (.tmp 159) (by rfl) (by rfl) (by simp[b.o]) h 2 [48,UInt8.ofNat (x+48)] _ (by rfl) (aH2 _ (x+48) (by omega) (by rfl)) (by rfl) rfl (by omega) ?_;intro J M w6 F)
    | (at_builtin;refine vT (by rfl) (.tmp 164) (.tmp 173) (by rfl) (by rfl) (by simp[b.o]) h 2 [UInt8.ofNat (x / 10+48),UInt8.ofNat (x%10+48)] _ (by rfl) (aK3 _ _ (x / 10+48) (x%10+48) (by omega) (by omega) (by rfl) (by rfl)) (by rfl) rfl (by omega) ?_;intro J M w6 F)
    | (at_builtin;refine vT (by rfl) (.tmp 136) (.tmp 150) (by rfl) (by rfl) (by simp[b.o]) h 3 [UInt8.ofNat (x / 100+48),UInt8.ofNat (x / 10%10+48),UInt8.ofNat (x%10+48)] _ (by rfl) (aGO _ _ _ (x / 100+48) (x / 10%10+48) (x%10+48) (by omega) (by omega) (by omega) (by rfl) (by rfl) (by rfl)) (by rfl) rfl (by omega) ?_;intro J M w6 F))
  (all_goals go_ret);(all_goals unfold cK);all_goals (first|rw[ae (by omega),af v]|rw[ae (by omega),ae (by omega)]|rw[af v])
  all_goals
   refine⟨J,M,aKq ?_,?_⟩
   ·have:=b.o;simp;omega
   ·have:=F.o;simpa using this
theorem aJB (w:H)(B g k:Nat)(b:Option Addr)(c:Nat)(S:Nat->Prop)(D:U)(dp:Int)(e:Out w w B S b c [])(d:IsB w (some ⟨g,0,none⟩) D)(f:¬S g)(i:g<w.heap.size)
  (j:D.length=k+1) (k2:k<=20) (x1:-999<=dp-1) (x2:dp-1<=999) :
  Y 257 #[.slice b 0 c,.bool false,.slice (some ⟨g,0,none⟩) 32 32,.int .i64 dp,.int .i64 ((k:Int)+1),.int .i64 k,.int .u8 101,.bool true] w (uR w B S (eS D (dp-1))):=by
 have h:=aNk w B g k 0 32 b c S D dp true e d f i j (by omega) (by omega) (by omega) x1 x2;rw[List.replicate_zero,eh,show((k:Int)+((0:Nat):Int))=k by omega]at h;exact h
open Go.RowKit Go.Sort
theorem uV (E:Nat)(h:E<=2047):bits .and .i64 (E:Int) 2047=E:=by
 have:=aAp E 2047 (by omega) (by omega);rw[show(2047:Nat)=2^11-1 from rfl,jk]at this;rw[lj (by omega)]at this;exact this
theorem aEo (b:Nat)(h:b<18446744073709551616):bits .and .u64 (b:Int) 4503599627370495=((b%4503599627370496:Nat):Int):=by
 have:=nc b 4503599627370495 h (by omega);rw[show(4503599627370495:Nat)=2^52-1 from rfl,jk]at this;exact this
theorem aQA (f:Nat)(h:f<4503599627370496):bits .or .u64 (f:Int) 4503599627370496=((4503599627370496+f:Nat):Int):=by
 have:=l8 f 4503599627370496 (by omega) (by omega);rw[show f ||| 4503599627370496=4503599627370496+f from by
  rw[tf];have:=ts (i:=52) (b:=f) (by simpa using h) 1;simpa using this.symm]at this
 exact this
def rW:Array Value:=#[Value.int .u8 0,Value.int .u8 0,Value.int .u8 0,Value.int .u8 0,Value.int .u8 0,Value.int .u8 0,Value.int .u8 0,Value.int .u8 0,Value.int .u8 0,Value.int .u8 0,Value.int .u8 0,Value.int .u8 0,Value.int .u8 0,Value.int .u8 0,Value.int .u8 0,Value.int .u8 0,Value.int .u8 0,Value.int .u8 0,Value.int .u8 0,Value.int .u8 0,Value.int .u8 0,Value.int .u8 0,Value.int .u8 0,Value.int .u8 0,Value.int .u8 0,Value.int .u8 0,Value.int .u8 0,Value.int .u8 0,Value.int .u8 0,Value.int .u8 0,Value.int .u8 0,Value.int .u8 0]
theorem aIS:rW=Array.replicate 32 (.int .u8 0):=rfl
theorem aG7 (w:H)(T:TypeId):Holds (fun(b:UInt8)=>Value.int .u8 (b.toNat:Int)) (w.alloc (.cells rW T)) w.heap.size 0 (Array.replicate 32 (0:UInt8)):=fun j c=>by
 have d:j<32:=by simpa using c
 refine⟨?_,vt _ _ _ _⟩;rw[vu,ib _ j c];rw[aIS];simp[d]
theorem Holds.below {w w':H}{B g:Nat}{d:Array UInt8}(h:Holds (fun(b:UInt8)=>Value.int .u8 (b.toNat:Int)) w g 0 d)(c:Below B w w')(e:g<B):Holds (fun(b:UInt8)=>Value.int .u8 (b.toNat:Int)) w' g 0 d:=fun j f=>by
 have:=h j f;rw[c.cell (by exact e),c.frozen (by exact e)];exact this
theorem Holds.drewN {w:H}{g:Nat}{d:Array UInt8}(h:Holds (fun(b:UInt8)=>Value.int .u8 (b.toNat:Int)) w g 0 d)(n:Nat):Holds (fun(b:UInt8)=>Value.int .u8 (b.toNat:Int)) (w.drewN n) g 0 d :=
 Holds.below (B:=g+1) h ⟨rfl,rfl,rfl,ah _,fun _ _=>rfl⟩ (by omega)
theorem aKL {α : Type}{P:List α -> Prop}(h0:P [])(h1:∀l a,P l->P (l++[a]))(l:List α):P l:=by
 rw[<-rt l];generalize l.reverse=r;induction r with|nil=>exact h0|cons a r ih=>{rw[pf];exact h1 _ _ ih}
theorem aK1 (l:U)(h:bT l=0):∀c∈l,c=48:=by
 induction l using aKL with|h0=>{intro c d;cases d}|h1 l c ih=>{rw[mH]at h;split at h;{rename_i b;intro x hx;rcases cu.1 hx with h1|h1;{exact ih h x h1};{rw[fh.1 h1,b]}};{omega}}
theorem aLK (d:Nat)(h:1<=d):∃c∈Lib.decDigits d,c≠48:=by
 induction d using Nat.strongRecOn with|_ d ih=>{rw[Lib.decDigits];split;{rename_i f;refine⟨_,fh.2 rfl,?_⟩;intro e;have:=az UInt8.toNat e;rw[mi (by show _<256;omega)]at this;have g:(48:UInt8).toNat=48:=rfl;omega};{obtain⟨c,hc,b⟩:=ih (d / 10) (by omega) (by omega);exact⟨c,uz _ hc,b⟩}}
theorem wT (d:Nat)(h:1<=d):1<=bT (Lib.decDigits d):=by
 rcases ak 0 (bT (Lib.decDigits d))with b|b;{exact b};{exfalso;obtain⟨c,hc,e⟩:=aLK d h;exact e (aK1 _ (by omega) c hc)}
theorem zH (g d k:Nat)(p:Int)(N:Nat)(w:H)(c:Holds (fun(b:UInt8)=>Value.int .u8 (b.toNat:Int)) w g 0 (Array.replicate 32 0))(h:1<=d)(hd:d<18446744073709551616)(f:Lib.nDigits d=N)(p1:-2000<=p)(p2:p<=2000)(i:bT (Lib.decDigits d)=k+1) :
  Y 259 #[.slice (some ⟨g,0,none⟩) 32 32,.int .u64 d,.int .i64 p,.int .i64 N] w
   fun e w'=>e=.returned (.tuple #[.int .i64 (N+p),.int .i64 ((k:Int)+1)])/\IsB w' (some ⟨g,0,none⟩) (Lib.decDigits d)/\aD (· = g) w w':=by
 have:=wZ g d 32 p N w c (by omega) h hd f p1 p2;rw[i]at this
 exact this
theorem Out.first {w f w':H}{B:Nat}{S:Nat->Prop}{b:Option Addr}{c:Nat}{bs:U}(d:aD (fun _=>False) w f)(h:Out f w' B S b c bs):Out w w' B S b c bs :=
 ⟨h.own,(d.mono (fun _ _ h=>h.elim)).trans h.kept,fun y g=>(h.lies y g).imp id (fun e=>bg d.size e),h.base⟩
theorem Out.later {w d:H}{B:Nat}{S:Nat->Prop}{f:Option Addr}{c:Nat}{bs:U}(h:Out w w B S f c bs)(g:aD (fun i=>w.heap.size<=i) w d):Out d d B S f c bs :=
 ⟨h.own.kept g (fun y b e=>by have:=(h.own.at y b).2;omega),aD.refl _ _,fun y b=>.inl ((h.lies y b).resolve_right (by have:=(h.own.at y b).2;omega)),bg h.base g.size⟩
theorem aLv (f:Nat)(h:f<4503599627370496):Lib.bitLen (4503599627370496+f)=53:=by
 obtain⟨d,e,g⟩:=t8 64 (4503599627370496+f) (by omega) (by omega);have c:Lib.bitLen (4503599627370496+f)=Lib.bitLenAux 64 (4503599627370496+f):=rfl;rw[c];generalize Lib.bitLenAux 64 (4503599627370496+f)=L at *;rcases i8 L 53 with b|b|b;{exfalso;have:2^L<=2^52:=b8 (by omega) (by omega);omega};{exact b};{exfalso;have:2^53<=2^(L-1):=b8 (by omega) (by omega);omega}
theorem aNo (f:Nat)(w:H)(h:f<4503599627370496):Y 191 #[.int .u64 ((4503599627370496+f:Nat):Int)] w fun e w'=>e=.returned (.int .i64 53)/\w=w':=by
 refine(Tryz.bits_Len64 _ _ (by omega) (by omega)).mono ?_;rintro e w' ⟨rfl,rfl⟩;have:Lib.bitLen ((4503599627370496+f:Nat):Int).toNat=53:=by{rw[eo];exact aLv f h};rw[this];exact⟨rfl,rfl⟩
theorem aGl (w:H)(B:Nat)(A:Option Addr)(c:Nat)(S:Nat->Prop)(b E f d:Nat)(p:Int)(hO:Out w w B S A c [])(T:aA w)
  (hb:b<9223372036854775808) (hE:b / 4503599627370496=E) (hf:b%4503599627370496=f) (E1:1<=E) (E2:E<=2046) (J:f<4503599627370496)
  (hS:∀k,S k->k<w.heap.size)
  (t:∀w',aA w'->Y 265 #[.int .u64 ((4503599627370496+f)*2048:Nat),.int .i64 ((E:Int)-1086)] w' (O (.tuple #[.int .u64 d,.int .i64 p]) w'))
  (L:1<=d) (hd:d<18446744073709551616) (p1:-900<=p) (p2:p<=900) :
  Y 228 #[.slice A 0 c,.float .f64 b,.int .u8 101,.int .i64 (-1)] w (uR w B S (eS ((Lib.decDigits d).take (bT (Lib.decDigits d))) ((Lib.nDigits d:Int)+p-1))):=by
 have bf:=uV E (by omega);have a3:=aEo b (by omega);rw[hf]at a3;have a4:=aQA f J;have g1:((E:Int)==2047)=false:=ai.2 (by omega);have g2:((E:Int)==0)=false:=ai.2 (by omega);have g3:(b:Int) / 4503599627370496=E:=by{omega};have g4:((b:Int) / 9223372036854775808 !=0)=false:=ii.2 (by omega);have y:=fun w=>aNo f w J;obtain⟨M,hM⟩:=ex (4503599627370496+f);rw[<-hM]at a4 y t;have g5:((M:Int)==0)=false:=ai.2 (by omega);have m2:M<9007199254740992:=by{omega};have m3:((M*2048:Nat):Int)=(M:Int)*2048:=by{omega};have m4:(E:Int)-1086=(E:Int)+-1023-11-52:=by{omega};rw[m3,m4]at t;have HL:=Z y;have bh:=aEU;have HO:=Z hO;have HT:=Z T;have av:=Z t;have aw:=Z hS;clear hO T t hE hf hS hM y m3 m4 J E1;go_enter Tryz.func228,Tryz.ntmps228;go_wp2_with fail;go_quiet (fail);go_wp2_with (go_at_call 191;((with_reducible refine(HL.o _).mono ?_);rintro e w' ⟨rfl,rfl⟩));obtain⟨g,q⟩:=ex w.heap.size;obtain⟨W,n⟩:=ex ((w.drewN nq).alloc (.cells rW 251));have F:Below w.heap.size w W:=by{rw[n];exact((am w.heap.size w).trans ⟨rfl,rfl,rfl,ah _,fun _ _=>rfl⟩:Below w.heap.size w (w.drewN nq)).alloc tP _};have sW:W.heap.size=g+1:=by{rw[n,q];simp};have hH:Holds (fun(b:UInt8)=>Value.int .u8 (b.toNat:Int)) W g 0 (Array.replicate 32 (0:UInt8)):=by{rw[n,q];exact aG7 (w.drewN nq) 251};have TW:=HT.o.below F tP;have K:=n;unfold rW at K;rw[<-K,<-q];clear n K;refine(av.o W TW).mono ?_;rintro e1 w2 ⟨rfl,r⟩;have R:Holds (fun(b:UInt8)=>Value.int .u8 (b.toNat:Int)) w2 g 0 (Array.replicate 32 (0:UInt8)):=Holds.below hH r (by omega);have D:Below w.heap.size w w2:=F.trans (r.mono (by omega));have s2:g<w2.heap.size:=by{have:=r.size;omega};have T2:=HT.o.below D tP;have be:=gR d hd;have n1:=f7 d;obtain⟨N,m⟩:∃N,Lib.nDigits d=N:=⟨_,rfl⟩;rw[m]at be n1;have z:=fun(w:H) (h:Lib.TabIs Tryz.prog w "internal/strconv.uint64pow10" .u64 Lib.pow10Tab)=>Tryz.internal_strconv_numDigits d L hd w h;rw[m]at z;have V:=Z q;clear q;have a7:=wT d L;have a8:bT (Lib.decDigits d)<=N:=by{have:=jA (Lib.decDigits d);rw[dv,m]at this;exact this};obtain⟨k,hk⟩:∃k,bT (Lib.decDigits d)=k+1:=⟨bT (Lib.decDigits d)-1,by omega⟩;have bl:k<=19:=by{omega};have bk:max (k:Int) 0=k:=by{omega};have s:=Z hk;clear a7 a8 hk;have al:=Z R;have ad:=Z D;have a0:=Z T2;have x:=Z m;have an:=Z z;clear hH r R D T2 TW F sW m z;go_wp2_with fail;obtain⟨C,v⟩:∃C:H->Prop,∀u,C u:=⟨fun _=>True,fun _=>trivial⟩;haveI:Nonempty (WIn C):=⟨⟨w2,v _⟩⟩;refine iW 10 [([0,1,2,3],4),([],5)] [6,7,8,9] C (by kernel_rfl) (by kernel_rfl) (v _) ?_;refine cP (fun l j=>?_);simp only[pick,pickZ,pickS,pickG];repeat (go_big_quiet_step (fail))
 refine aq (j _ (fun Q1 ab=>?_));clear j l;simp only[pick,pickZ,pickS,pickG];go_wp2_with fail;refine(an.o _ (a0.o.drewN 1).u10).mono ?_;rintro e w3 ⟨rfl,a9⟩;subst a9;go_wp2_with fail;refine ab _ _ (v _) (cP (fun l j=>aq (j _ (fun Q2 ac=>?_))));clear j l ab Q1;simp only[pick,pickZ,pickS,pickG];go_wp2_with fail;refine(zH g d k p N (w2.drewN 1) (Holds.drewN al.o 1) L hd x.o (by omega) (by omega) s.o).mono ?_;rintro e w3 ⟨rfl,S3,K3⟩;have ao:=Z S3;have X:=Z K3;clear S3 K3;go_wp2_with fail;refine ac _ _ (v _) (jP (fun l j=>?_));clear ac Q2;simp only[pick,pickZ,pickS,pickG];repeat (go_big_quiet_step (fail))
 refine aq (j _ (fun Q3 bj=>?_));clear j l;simp only[fo,fq];go_wp2_with fail;have aa:aD (fun i=>w.heap.size<=i) w w3:=(aD.of_below ad.o).trans ((((aD.refl (· = g) w2).drewN 1).trans X.o).mono (fun i _ e=>by have:=V.o;omega));have a1:aD (fun _=>False) w w3:=aa.mono (fun i hi e=>by omega);have O3:=HO.o.later aa;have a2:IsB w3 (some ⟨g,0,none⟩) ((Lib.decDigits d).take (k+1)):=ao.o.take (k+1);have a6:((Lib.decDigits d).take (k+1)).length=k+1:=by{have:=s.o;have:=jA (Lib.decDigits d);rw[bu];omega};have bd:g<w3.heap.size:=by{have:=X.o.size;simp at this;omega};refine(aJB w3 B g k A c S _ ((N:Int)+p) O3 a2 (fun e=>by have:=aw.o g e;have:=V.o;omega) bd a6 (by omega) (by omega) (by omega)).mono ?_;rintro e w4 ⟨a5,c4,rfl,O4⟩;go_wp2;go_ret;refine⟨a5,c4,?_,?_⟩;{rw[s.o,x.o];rfl};{rw[s.o,x.o];exact Out.first a1 O4}
open Go.RowKit
def aBt (b:Nat)(pr:Int)(txt:U):Prop :=
 ∀(w:H) (B:Nat) (ad:Option Addr) (c:Nat) (S:Nat->Prop),Out w w B S ad c []->aA w->(∀k,S k->k<w.heap.size)->Y 228 #[.slice ad 0 c,.float .f64 b,.int .u8 101,.int .i64 pr] w (uR w B S txt)
def mQ (b:Nat)(txt:U):Prop:=aBt b (-1) txt
theorem aQq:∃b:Array Value,b.size=24/\∀w:H,(Instr.makeSlice 35 (.int .i64 0) (.int .i64 24)).run Tryz.prog w=.ok (.slice (some ⟨w.heap.size,0,none⟩) 0 24) (w.alloc (.cells b 5)):=by
 obtain⟨c,hi,d,e,f⟩:=cx aFb;refine⟨madeCells (Value.int .u8 0).cells (24*c.size),?_,fun w=>?_⟩;{rw[e,aF3 24];simp};{exact run_make (P:=Tryz.prog) w 35 5 c (.int .u8 0) Tryz.underlying35 hi d .i64 .i64 0 24 (by omega) (by omega) (by rw[f];omega) (by omega)}
theorem aLY (b:Nat)(pr:Int)(txt:U)(w:H)(T:aA w)(p1:-1<=pr)(p2:pr<=20)(r:aBt b pr txt) :
  Y 200 #[.float .f64 b,.int .u8 101,.int .i64 pr,.int .i64 64] w (O (.string ⟨txt.toArray⟩) w):=by
 obtain⟨q,s,L⟩:=aQq;obtain⟨g,f⟩:=ex w.heap.size;obtain⟨W,d⟩:=ex (w.alloc (.cells q 5));have i:Below w.heap.size w W:=by{rw[d];exact(am _ _).alloc tP _};have E:W.heap.size=g+1:=by{rw[d,f];simp};have m:Out W W g (· = g) (some ⟨g,0,none⟩) 24 []:=by{refine⟨?_,aD.refl _ _,fun y D=>.inl (by cases D;rfl),by omega⟩;rw[d,f];exact qy w q 24 tP (by unfold maxLen;omega) (by rw[s])};have p:=T.below i tP;have j:=r W g (some ⟨g,0,none⟩) 24 (· = g) m p (fun k K=>by omega);have t:=fun(w:H) (x:Option Addr) (bs:U) (n c:Nat)=>qK (P:=Tryz.prog) w 35 5 9 Tryz.underlying35 Tryz.underlying5 Tryz.underlying9 x bs n c;have v:=Z t;have u:=Z j;have A:=Z d;have l:=Z f;clear t j r T p m d f s E;have M:max (pr+4) 24=24:=by{omega};go_enter Tryz.func200,Tryz.ntmps200;go_wp2_with fail;rw[<-A.o,<-l.o];refine u.o.mono ?_;rintro e F ⟨B,C,rfl,h⟩;have k2:=v.o F B txt txt.length C rfl h.own.isB;have z:=Z h;clear h;go_wp2;go_ret;refine⟨rfl,?_⟩;have J:=l.o;exact i.trans (z.o.kept.below (by have:=i.size;omega) (fun k _ e=>by omega))
theorem aE6 (b:Nat)(pr:Int)(txt:U)(w:H)(T:aA w)(p1:-1<=pr)(p2:pr<=20)(d:aBt b pr txt) :
  Y 158 #[.float .f64 b,.int .u8 101,.int .i64 pr,.int .i64 64] w (O (.string ⟨txt.toArray⟩) w):=by
 have g:=Z d;have h:=Z T;clear d T;go_enter Tryz.func158,Tryz.ntmps158;go_wp2_with fail;refine(aLY b pr txt _ h.o p1 p2 g.o).mono ?_;rintro e i ⟨rfl,c⟩;have f:=Z c;clear c;go_wp2;go_ret;exact⟨rfl,f.o⟩
structure lV (txt D:U) (x:Int) (hd tl:U):Prop where
 cut:Lib.cut txt [101]=(hd,tl,true)
 num:Lib.atoi tl=some x
 rep:Lib.replace hd [46] [] 1=D
 len:txt.length<=1000
 tlen:tl.length<=18
 hlen:hd.length<=1000
 cnt:Lib.countB ⟨hd.toArray⟩ ⟨#[46]⟩<=1000
 lo:-1000<=x
 hi:x<=1000
theorem eG (l:U):(⟨l.toArray⟩:I).size=l.length:=rfl
theorem aPX (txt hd b:U)(w:H)(T:aA w)(h:Lib.cut txt [101]=(hd,b,true))(d:txt.length<=1000) :
  Y 71 #[.string ⟨txt.toArray⟩,.string { data:=#[101] }] w fun e w'=>e=.returned (.tuple #[.string ⟨hd.toArray⟩,.string ⟨b.toArray⟩,.bool true])/\∃n,w'=w.drewN n:=by
 obtain⟨m,c⟩:=T.most;have:=Tryz.strings_Cut ⟨txt.toArray⟩ { data:=#[101] } m w (by rw[eG];omega) c;have e:Lib.cut (⟨txt.toArray⟩:I).data.toList ({ data:=#[101] }:I).data.toList=(hd,b,true):=h;rw[e]at this
 exact this
theorem aGX (b:U)(x:Int)(w:H)(h:Lib.atoi b=some x)(c:b.length<=18) :
  Y 113 #[.string ⟨b.toArray⟩] w (O (.tuple #[.int .i64 x,.nilIface]) w):=by
 refine(Tryz.strconv_Atoi ⟨b.toArray⟩ x (by rw[aS];exact c) h w).mono ?_;rintro e w' ⟨rfl,t,rfl⟩;exact⟨rfl,sf w 5 t⟩
theorem aIe (hd D:U)(w:H)(T:aA w)(h:Lib.replace hd [46] [] 1=D)(c:hd.length<=1000)(_hc:Lib.countB ⟨hd.toArray⟩ ⟨#[46]⟩<=1000) :
  Y 133 #[.string ⟨hd.toArray⟩,.string { data:=#[46] },.string { data:=#[] },.int .i64 1] w (O (.string ⟨D.toArray⟩) w):=by
 obtain⟨m,b⟩:=T.most;have:=Tryz.strings_Replace ⟨hd.toArray⟩ { data:=#[46] } { data:=#[] } 1 m w (by rw[eG];omega) b (by show 1<=1;omega) (by
  have e:({ data:=#[] }:I).size=0:=rfl;rw[eG,e];omega)
 have e:Lib.replace (⟨hd.toArray⟩:I).data.toList ({ data:=#[46] }:I).data.toList ({ data:=#[] }:I).data.toList 1=D:=h;rw[e]at this
 exact this
theorem lI (b:Nat)(txt D hd h:U)(x:Int)(w:H)(T:aA w)(m:mQ b txt)(c:lV txt D x hd h) :
  Y 114 #[.float .f64 b] w (O (.tuple #[.string ⟨D.toArray⟩,.int .i64 (x+1)]) w):=by
 have q:=Z m;have g:=Z T;have HP:=Z c;have x1:=c.lo;have x2:=c.hi;clear m T c;go_enter Tryz.func114,Tryz.ntmps114;go_wp2_with fail;refine(aE6 b (-1) txt _ g.o (by decide) (by decide) q.o).mono ?_;rintro e t ⟨rfl,f⟩;have k:=Z f;have r:=Z (g.o.below f tP);clear f;go_wp2_with fail;refine(aPX txt hd h _ r.o HP.o.cut HP.o.len).mono ?_;rintro e w3 ⟨rfl,n,rfl⟩;go_wp2_with fail;refine(aGX h x _ HP.o.num HP.o.tlen).mono ?_;rintro e w3 ⟨rfl,i⟩;have d:Below w.heap.size w w3:=(k.o.trans ⟨rfl,rfl,rfl,ah _,fun _ _=>rfl⟩:Below w.heap.size w (t.drewN n)).trans (i.mono k.o.size);have l:=Z d;have s:=Z (g.o.below d tP);clear i d;go_wp2_with fail;refine(aIe hd D _ s.o HP.o.rep HP.o.hlen HP.o.cnt).mono ?_;rintro e u ⟨rfl,j⟩;have p:=Z (l.o.trans (j.mono l.o.size));clear j;go_wp2;go_ret2;exact⟨rfl,p.o⟩
