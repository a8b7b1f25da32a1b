/-
internal/strconv.setDigits: the digits of a number in a buffer, and how many there are without the noughts at the end.
-/
import Derived.Test.YtcfgbdhpcboikaaGreatDoorShortB
import Derived.Lib.SmallJoins
namespace Go.Proofs.YtcfgbdhpcboikaaGreatDoor
set_option maxHeartbeats 16000000
set_option maxRecDepth 100000
open Go.RowKit Go.Sort
theorem vG {n:Nat}:n<=n:=ag n
def cL (l:U):Nat:=(l.reverse.dropWhile (· == 48)).length
theorem kH (l:U):cL l<=l.length:=by
 unfold cL;have:∀(r:U),(r.dropWhile (· == 48)).length<=r.length:=by{intro r;induction r with|nil=>simp|cons a r ih=>{rw[me];split<;>simp<;>omega}};have:=this l.reverse;simpa using this
theorem nP (l:U)(c:UInt8):cL (l++[c])=if c=48 then cL l else l.length+1:=by
 unfold cL;rw[rl,uq,lc,me];by_cases h:c=48;{simp[h]};{simp[h]}
theorem aLZ (l:U)(k:Nat)(b:k<l.length)(h:l[k]=48)(c:cL (l.take (k+1))=cL l):cL (l.take k)=cL l:=by
 rw[<-c,fw b,nP,ae h]
theorem aLY (l:U)(k:Nat)(b:k<l.length)(h:l[k]≠48)(c:cL (l.take (k+1))=cL l):cL l=k+1:=by
 rw[<-c,fw b,nP,ac h,br];omega
theorem iV (u:Nat)(h:u<18446744073709551616):Lib.nDigits u<=20:=by
 have d:=gf u;rcases ak 20 (Lib.nDigits u)with b|b;{exfalso;by_cases c:u=0;{rw[c,i5 (by omega)]at b;omega};{have:=Lib.numDigits_eq u (by omega) h;have e:(if 10^Lib.l10 (Lib.bitLen u)<=u then 1 else 0)<=1:=by{split<;>omega};omega}};{exact b}
theorem aHr (w:H)(g d:Nat)(dk:Array UInt8):aG (· = g) w (putRow (fun(b:UInt8)=>Value.int .u8 (b.toNat:Int)) w g d dk) :=
 ⟨rfl,rfl,rfl,by simp,fun k _ c=>by
  show(w.heap.modify g _)[k]?=_;rw[ut,ac (fun e=>c e.symm)]⟩
theorem aJj (w:H)(g n c h:Nat)(b:h<=c):(Instr.slice 35 (.slice (some ⟨g,0,none⟩) n c) none (some (.int .i64 h)) none).run Tryz.prog w=.ok (.slice (some ⟨g,0,none⟩) h c) w:=by
 exact aLB 35 5 Tryz.underlying35 (by kernel_rfl) w _ n c h b
theorem zN (g d K:Nat)(p:Int)(N:Nat)(w:H)(S:Holds (fun(b:UInt8)=>Value.int .u8 (b.toNat:Int)) w g 0 (Array.replicate K 0))(hK:20<=K)(_hd1:1<=d)(hd:d<18446744073709551616)(m:Lib.nDigits d=N)(p1:-2000<=p)(p2:p<=2000) :
  Y 259 #[.slice (some ⟨g,0,none⟩) K K,.int .u64 d,.int .i64 p,.int .i64 N] w
   fun e w'=>e=.returned (.tuple #[.int .i64 (N+p),.int .i64 (cL (Lib.decDigits d):Nat)])/\IsB w' (some ⟨g,0,none⟩) (Lib.decDigits d)/\aG (· = g) w w':=by
 have a5:N<=20:=by rw[<-m];exact iV d hd
 have a3:1<=N:=by rw[<-m];exact gf d
 have A:Holds (fun(b:UInt8)=>Value.int .u8 (b.toNat:Int)) w g 0 (Array.replicate N 0):=by
  intro j f;have a4:j<N:=by simpa using f
  have:=S j (by simp;omega);rw[im _ j (by simp;omega)]at this
  rw[im _ j f];simpa using this
 have X:d<10^(Array.replicate N (0:UInt8)).size:=by rw[vv,<-m];exact ny d
 have r:=fun cap=>Tryz.internal_strconv_formatBase10 g 0 cap d (Array.replicate N 0) w A X hd (by simp;omega)
 rw[vv]at r
 have c1:=fun w=>aJj w g K K N (by omega)
 have T:(Lib.decDigits d).length=N:=by rw[eo,m]
 have ad:=Z r;have ah:=Z A;have an:=Z m;have h:=Z T;clear r X A S m T;go_enter Tryz.func259,Tryz.ntmps259
 go_wp2_with fail
 refine(ad.o _).mono ?_;rintro e w1 ⟨rfl,n,v',dk,E,F⟩;have M:aG (· = g) w w1:=by rw[E];exact(aHr w g 0 dk).drewN n
 have V:dk.size=N:=F.size;have R:IsB w1 (some ⟨g,0,none⟩) (Lib.decDigits d):=by
  intro j b q;have f:j<N:=by
   rcases ak j N with z|z
   ·exact z
   ·rw[fi (by rw[h.o];exact z)]at q;cases q
  refine⟨_,rfl,?_⟩;rw[qe,E];have hr:=Lib.row_is_numeral (u:=d) (v':=v') (dk:=dk) (by rw[an.o];exact F) j (by rw[h.o];exact f);have av:(Lib.decDigits d)[j]'(by rw[h.o];exact f)=b:=by
   rw[bc (by rw[h.o];exact f)]at q
   exact b8 q
  show(putRow _ w g 0 dk).cell? ⟨g,0+j,none⟩=_;rw[cell?_putRow _ w g 0 (Array.replicate N 0) dk ah.o (by simpa using V) j (by omega),<-hr,av];rfl
 have L:=Z M;have t:=Z R;clear M R V F E;go_wp2_with fail
 go_loopg [3] N (fun k nd wx=>∃(j:Nat),nd=.int .i64 j/\j<=N/\cL ((Lib.decDigits d).take j)=cL (Lib.decDigits d)/\k=j/\wx=w1)
 case atStart=>exact⟨N,rfl,ag _,by rw[cy (by rw[h.o];exact ag _)],rfl,rfl⟩
 case round =>
  obtain⟨j,rfl,f,ht,W,a2⟩:=hrel;subst a2;have v:=Z ht;have al:=Z W;clear ht W;by_cases y:j=0
  ·have hp:¬(0:Int)<j:=by omega
   have H0:=Z y;clear y;go_wp2
   go_ret2;refine⟨?_,t.o,L.o⟩;have:=v.o;rw[H0.o]at this ⊢
   rw[<-this];rfl
  ·obtain⟨i,hi⟩:∃i,j=i+1:=⟨j-1,by omega⟩
   subst hi;have D:i<(Lib.decDigits d).length:=by rw[h.o];omega
   have a1:=t.o i ((Lib.decDigits d)[i]) (bc D);obtain⟨x,hx,B⟩:=a1;cases hx;rw[qe]at B
   have a0:wr.cell? ⟨g,i,none⟩=some (.int .u8 ((Lib.decDigits d)[i].toNat)):=by simpa [dW]using B
   have ab:=aLZ (Lib.decDigits d) i D;have aa:=aLY (Lib.decDigits d) i D;have ar:=Z ab;have ao:=Z aa;clear B ab aa y;obtain⟨c,C⟩:∃c,(Lib.decDigits d)[i]=c:=⟨_,rfl⟩
   rw[C]at a0
   have J:=Z C;clear C;by_cases l:c=48
   ·have f1:((c.toNat:Int)==48)=true:=by rw[l];rfl
    have s:=Z l;clear l;go_wp2
    go_roundg i
    case measure=>have:=al.o;omega
    case rel=>exact⟨i,by go_num,by omega,ar.o (by rw[J.o,s.o]) v.o,rfl,rfl⟩
   ·have f1:((c.toNat:Int)==48)=false:=ai.2 (by intro e;exact l (dx.1 (by simp;omega)));have s:=Z l;clear l;go_wp2
    go_ret2;refine⟨?_,t.o,L.o⟩;rw[ao.o (by rw[J.o];exact s.o) v.o];rfl
open Go.RowKit
structure Out (w0 w:H) (B:Nat) (S:Nat->Prop) (ad:Option Addr) (c:Nat) (bs:U):Prop where
 own:jE w B 5 ad c bs
 kept:aG S w0 w
 lies:∀y,ad=some y->S y.block\/w0.heap.size<=y.block
 base:B<=w.heap.size
theorem Out.alloc {d w:H}{B:Nat}{S:Nat->Prop}{b:Option Addr}{c:Nat}{bs:U}(h:Out d w B S b c bs)(o:Obj):Out d (w.alloc o) B S b c bs :=
 ⟨h.own.kept ((aG.refl (fun _=>False) w).alloc o) (fun _ _ h=>h),h.kept.alloc o,h.lies,by have:=h.base;simp;omega⟩
theorem Out.drewN {d w:H}{B:Nat}{S:Nat->Prop}{b:Option Addr}{c:Nat}{bs:U}(h:Out d w B S b c bs)(n:Nat):Out d (w.drewN n) B S b c bs :=
 ⟨h.own.kept ((aG.refl (fun _=>False) w).drewN n) (fun _ _ h=>h),h.kept.drewN n,h.lies,h.base⟩
theorem Out.next {m w w':H}{B:Nat}{S:Nat->Prop}{d f:Option Addr}{c j:Nat}{n bs':U}(h:Out m w B S d c n)
  (q:jE w' B 5 f j bs') (l:aG (fun k=>d.map (·.block)=some k) w w') (p:∀y,f=some y->d.map (·.block)=some y.block\/w.heap.size<=y.block):Out m w' B S f j bs':=by
 have s:=h.kept.size;refine⟨q,h.kept.trans' l ?_,?_,bg h.base l.size⟩
 ·intro i hi e;cases d with
  | none=>cases e
  | some y =>
   have g:y.block=i:=by simpa using e
   rcases h.lies y rfl with b|b
   ·rwa[g]at b
   ·omega
 ·intro y r;rcases p y r with b|b
  ·cases d with
   | none=>cases b
   | some z =>
    have g:z.block=y.block:=by simpa using b
    rw[<-g];exact h.lies z rfl
  ·exact .inr (by omega)
section
variable {P:Program} {w:H} {ops:Array Oper} {rest:List Oper} {o:Oper} {a:Act} {Q:Exit->Act->H->Prop}
theorem uU (u:o.guard=none)(s x:Operand)(t:TypeId)
  (z:o.op=.call { callee:=.builtin .append,args:=#[s,x],argTypes:=#[t,t] })
  (i:TypeInfo) (E:P.underlying t=some (.slice 5)) (hi:P.info? 5=some i) (F:i.zero=some (.int .u8 0)) (C:i.size=1) (r:i.bytes=1)
  {l:H} {B:Nat} {S:Nat->Prop} (f:Option Addr) (n c:Nat) (d:U) (A:a.eval s=.slice f n c) (y:d.length=n) (g:Out l w B S f c d)
  (j:Option Addr) (m k:Nat) (cs:U) (hx:a.eval x=.slice j m k) (v:cs.length=m) (D:IsB w j cs) (J:n+m<=1000000)
  (h:∀b e w',G (Out l w' B S b e (d++cs))->wpList P ops Q rest (a.put o.dst (.slice b (n+m:Nat) e)) w'):wpList P ops Q (o :: rest) a w :=
 aD7 u s x t z B 5 i E hi F C r f n c d A y g.own j m k cs hx v D (by omega) g.base
  (fun b e w' h1 p q=>h b e w' (show Out _ _ _ _ _ _ _ from g.next h1.o p q))
theorem aB6 (u:o.guard=none)(s x:Operand)(t:TypeId)
  (z:o.op=.call { callee:=.builtin .append,args:=#[s,x],argTypes:=#[t,t] })
  (i:TypeInfo) (D:P.underlying t=some (.slice 5)) (hi:P.info? 5=some i) (J:i.zero=some (.int .u8 0)) (C:i.size=1) (r:i.bytes=1)
  {l d:H} {B:Nat} {S:Nat->Prop} (e:Option Addr) (n c:Nat) (b:U) (A:a.eval s=.slice e n c) (y:b.length=n) (p:Out l d B S e c b)
  (m j:Nat) (cs:U) (k:Array Value) (F:w=d.alloc (.cells k 5)) (E:k=(cs.map dW).toArray) (hx:a.eval x=.slice (some ⟨d.heap.size,0,none⟩) m j) (v:cs.length=m) (q:n+m<=1000000)
  (h:∀f g w',G (Out l w' B S f g (b++cs))->wpList P ops Q rest (a.put o.dst (.slice f (n+m:Nat) g)) w'):wpList P ops Q (o :: rest) a w:=by
 subst F;subst E;exact uU u s x t z i D hi J C r e n c b A y (p.alloc _) _ m j cs hx v (IsB.of_heap (arr:=cs) (bi d _) 0) q h
end
def dB (x:Nat):U :=
 if x<10 then [48,UInt8.ofNat (x+48)]else if x<100 then [UInt8.ofNat (x / 10+48),UInt8.ofNat (x%10+48)]
 else [UInt8.ofNat (x / 100+48),UInt8.ofNat (x / 10%10+48),UInt8.ofNat (x%10+48)]
def fN (D:U)(x:Int):U :=
 D.take 1++(if 1<D.length then 46 :: D.drop 1 else [])++[101,if x<0 then 45 else 43]++dB x.natAbs
open Go.RowKit
theorem aF7:(Tryz.prog.info? 5).map (fun i=>(i.zero,i.size,i.bytes))=some (some (.int .u8 0),1,1):=by kernel_rfl
theorem aSK:(Tryz.prog.info? 5).map (·.size)=some 1:=by kernel_rfl
theorem qK (x:Nat)(h:x<256):dW (UInt8.ofNat x)=.int .u8 (x:Int):=by
 unfold dW;rw[mv (by simpa using h)]
theorem aIZ (z:Value)(x:Nat)(h:x<256)(b:z=.int .u8 (x:Int)):(#[.int .u8 48,z]:Array Value)=([48,UInt8.ofNat x].map dW).toArray:=by
 rw[co,co,fj,qK x h,b];rfl
theorem aL2 (b c:Value)(x y:Nat)(hx:x<256)(f:y<256)(d:b=.int .u8 (x:Int))(e:c=.int .u8 (y:Int)):(#[b,c]:Array Value)=([UInt8.ofNat x,UInt8.ofNat y].map dW).toArray:=by
 rw[co,co,fj,qK x hx,qK y f,d,e]
theorem aHI (b c d:Value)(x y z:Nat)(hx:x<256)(h:y<256)(i:z<256)(e:b=.int .u8 (x:Int))(f:c=.int .u8 (y:Int))(g:d=.int .u8 (z:Int)):(#[b,c,d]:Array Value)=([UInt8.ofNat x,UInt8.ofNat y,UInt8.ofNat z].map dW).toArray:=by
 rw[co,co,co,fj,qK x hx,qK y h,qK z i,e,f,g]
theorem aLs {a:Option Addr}{n m c:Nat}(h:n=m):Ending.returned (.slice a n c)=.returned (.slice a m c):=by rw[h]
def wG (w:H)(B:Nat)(S:Nat->Prop)(bs:U)(e:Ending)(w':H):Prop :=
 ∃ad c,e=.returned (.slice ad bs.length c)/\Out w w' B S ad c bs
section
variable {w:H} {ops:Array Oper} {rest:List Oper} {o:Oper} {a:Act} {Q:Exit->Act->H->Prop}
theorem xU (p:o.guard=none)(s x:Operand)(t:o.op=.call { callee:=.builtin .append,args:=#[s,x],argTypes:=#[35,35] })
  {j f:H} {B:Nat} {S:Nat->Prop} {d:Option Addr} {n c:Nat} {b:U} (u:a.eval s=.slice d n c) (r:b.length=n) (k:G (Out j f B S d c b))
  (m:Nat) (cs:U) (e:Array Value) (y:w=f.alloc (.cells e 5)) (v:e=(cs.map dW).toArray) (hx:a.eval x=.slice (some ⟨f.heap.size,0,none⟩) m m) (q:cs.length=m) (l:n+m<=1000000)
  (h:∀g i w',G (Out j w' B S g i (b++cs))->wpList Tryz.prog ops Q rest (a.put o.dst (.slice g (n+m:Nat) i)) w'):wpList Tryz.prog ops Q (o :: rest) a w:=by
 obtain⟨D,hi,z,A,C⟩:=cq aF7;exact aB6 p s x 35 t D Tryz.underlying35 hi z A C d n c b u r k.o m m cs e y v hx q l h
theorem aSQ (q:o.guard=none)(s x:Operand)(u:o.op=.call { callee:=.builtin .append,args:=#[s,x],argTypes:=#[35,35] })
  {j:H} {B:Nat} {S:Nat->Prop} {d:Option Addr} {n c:Nat} {b:U} (v:a.eval s=.slice d n c) (t:b.length=n) (l:G (Out j w B S d c b))
  (e:Option Addr) (m i:Nat) (cs:U) (hx:a.eval x=.slice e m i) (r:cs.length=m) (k:IsB w e cs) (p:n+m<=1000000)
  (h:∀f g w',G (Out j w' B S f g (b++cs))->wpList Tryz.prog ops Q rest (a.put o.dst (.slice f (n+m:Nat) g)) w'):wpList Tryz.prog ops Q (o :: rest) a w:=by
 obtain⟨C,hi,y,z,A⟩:=cq aF7;exact uU q s x 35 u C Tryz.underlying35 hi y z A d n c b v t l.o e m i cs hx r k p h
end
theorem aEg (d:UInt8)(x:Int):fN [d] x=d :: [101,if x<0 then 45 else 43]++dB x.natAbs:=by simp[fN]
theorem aCq (d:UInt8)(D:U)(x:Int)(h:1<=D.length):fN (d :: D) x=d :: 46 :: D++[101,if x<0 then 45 else 43]++dB x.natAbs:=by
 have:1<(d :: D).length:=by{simp;omega};unfold fN;rw[ae this];simp
theorem aII (d:UInt8)(D:U)(z:Nat)(x:Int):fN (d :: D++List.replicate z 48) x=(d :: if D.length+z=0 then []else 46 :: (D++List.replicate z 48))++[101,if x<0 then 45 else 43]++dB x.natAbs:=by
 split;{rename_i h;obtain rfl:D=[]:=fv (by omega);obtain rfl:z=0:=by{simp at h;omega};exact aEg d x};{rename_i h;have:=aCq d (D++List.replicate z 48) x (by simp;omega);simpa using this}
theorem aOl (w:H)(B g k z K:Nat)(ad:Option Addr)(c:Nat)(S:Nat->Prop)(D:U)(dp:Int)(sh:Bool)(hO:Out w w B S ad c [])(hI:IsB w (some ⟨g,0,none⟩) D)(hg:¬S g)(_hgs:g<w.heap.size)
  (q:D.length=k+1) (k2:k+z<=20) (hK:k+2<=K) (a3:K<=40) (x1:-999<=dp-1) (x2:dp-1<=999) :
  Y 257 #[.slice ad 0 c,.bool false,.slice (some ⟨g,0,none⟩) K K,.int .i64 dp,.int .i64 ((k:Int)+1),.int .i64 ((k:Int)+z),.int .u8 101,.bool sh] w (wG w B S (fN (D++List.replicate z 48) (dp-1))):=by
 obtain⟨d,D',rfl⟩:∃d D',D=d :: D':=by{cases D with|nil=>simp at q|cons d D'=>exact⟨d,D',rfl⟩};rw[aII];have ab:D'.length=k:=by{simpa using q};have HO:=Z hO;have HI:=Z hI;have a4:w.cell? ⟨g,0,none⟩=some (.int .u8 d.toNat):=by{obtain⟨x,hx,hc⟩:=hI 0 d rfl;cases hx;exact hc};have ah:G (IsB w (some ⟨g,1,none⟩) D'):=by{have:=IsB.cut hI 1 K (by rw[q];omega);rw[ac (by omega)]at this;exact this};clear hO hI q;have hcut:∀w,(Instr.slice 35 (.slice (some ⟨g,0,none⟩) K K) (some (.int .i64 1)) (some (.int .i64 ((k:Int)+1))) none).run Tryz.prog w=.ok (.slice (some ⟨g,1,none⟩) k (K-1)) w:=by{intro w;have:=yY 35 5 Tryz.underlying35 aSK w (some ⟨g,0,none⟩) K K 1 (k+1) (by omega) (by omega);rw[ac (by omega)]at this;exact this};have f1:(((k:Int)+1)==0)=false:=ai.2 (by omega);have f2:(((k:Int)+1) !=0)=true:=db.2 (by omega);have hm:min ((k:Int)+1) ((k:Int)+z+1)=(k:Int)+1:=by{omega};have f:=Z ab;clear ab;obtain⟨e,he⟩:∃e,dp-1=e:=⟨_,rfl⟩;obtain⟨x,hx⟩:∃x,e.natAbs=x:=⟨_,rfl⟩;rw[he,hx];obtain⟨bs,p⟩:∃bs,(d :: if D'.length+z=0 then []else 46 :: (D'++List.replicate z 48))=bs:=⟨_,rfl⟩;rw[p];have v:=Z p;obtain⟨LL,M⟩:∃LL,bs.length=LL:=⟨_,rfl⟩;have b:=Z M;have a6:LL<=30:=by{rw[<-M,<-p];have:=f.o;split<;>simp<;>omega};clear p M;obtain⟨sg,T⟩:∃sg:UInt8,(if e<0 then (45:UInt8)else 43)=sg:=⟨_,rfl⟩;rw[T];have av:x<10\/10<=x/\x<100\/100<=x/\x<1000:=by{omega};go_enter Tryz.func257,Tryz.ntmps257;go_upto_if 92 with(at_builtin;refine xU (by rfl) (.tmp 87) (.tmp 89) (by rfl) (by rfl) rfl HO 1 [d] _ (by rfl) (by rfl) (by rfl) rfl (by simp;try omega) ?_;intro a0 c1 w1 W);go_cut [0] (fun s wx=>∃m c3,s=.slice m LL c3/\G (Out w wx B S m c3 bs))
 case first =>
  rcases g7 (k+z)with h0|h0;{have l:bs=[d]:=by{rw[<-v.o,ae (by have:=f.o;omega)]};have R:LL=1:=by{rw[<-b.o,l];rfl};subst l R;go_wp2;go_meet;exact⟨_,_,rfl,W⟩}
  ·have l:bs=d :: 46 :: (D'++List.replicate z 48):=by{rw[<-v.o,ac (by have:=f.o;omega)]};have R:LL=k+2+z:=by{rw[<-b.o,l];simp[f.o];omega};subst l R;clear v b;rcases ak k 1 with al|al
   all_goals
    go_wp2_with (first
     | (at_builtin;refine xU (by rfl) (.tmp 93) (.tmp 94) (by rfl) (by rfl) rfl W 1 [46] _ (by rfl) (by rfl) (by rfl) rfl (by have an:=f.o;simp;try omega) ?_;intro a1 c2 w2 A)
     | (at_builtin;refine aSQ (by rfl) (.tmp 103) (.tmp 107) (by rfl) (by rfl) rfl A (some ⟨g,1,none⟩) k (K-1) D' (by rfl) f.o (IsB.kept ah.o A.o.kept (fun y hy _=>by cases hy;exact hg)) (by have an:=f.o;simp;try omega) ?_;intro m c3 w3 C))
   all_goals
    go_loopw [0,114] (fun r i wx=>∃(j n:Nat) (a:Option Addr) (J:Nat),r=.slice a n J/\i=.int .i64 j/\G (n=k+2+j/\j<=z/\Out w wx B S a J (d :: 46 :: D'++List.replicate j 48))) (fun _ i _=>z-(intOf i).toNat)
    case atStart =>
     refine⟨0,_,_,_,rfl,rfl,Z ⟨by omega,by omega,?_⟩⟩;first
     | simpa using C.o
     | (have:=f.o;have hD:D'=[]:=fv (by omega);rw[hD];simpa using A.o)
    case round =>
     obtain⟨j,n,a,J,rfl,rfl,N⟩:=hrel;have hn:=N.o.1;have V:=Z N.o.2.2;rcases ak j z with a7|a5
     ·go_wp2_with (at_builtin;refine xU (by rfl) (.tmp 116) (.tmp 117) (by rfl) (by rfl) (by have:=f.o;simp;omega) V 1 [48] _ (by rfl) (by rfl) (by rfl) rfl (by omega) ?_;intro aa c5 w5 h)
      go_roundw
      case rel=>exact⟨j+1,_,_,_,rfl,by go_num,Z ⟨by omega,by omega,by have:=h.o;rw[jl];simpa using this⟩⟩
      case measure=>simp[intOf];omega
     ·obtain rfl:j=z:=by have:=N.o.2.1;omega
      go_wp2
      go_meet;exact⟨_,_,by rw[hn],by simpa using V⟩
 case rest =>
  obtain⟨m,c3,rfl,C⟩:=hcut;have ao:e=(x:Int)/\sg=43\/e=-(x:Int)/\1<=x/\sg=45:=by{rw[<-T];by_cases t:e<0;{exact .inr ⟨by omega,by omega,ae t⟩};{exact .inl ⟨by omega,ac t⟩}};clear T;rcases ao with⟨t,rfl⟩|⟨t,a8,rfl⟩;all_goals (rcases av with u|⟨ar,u⟩|⟨ar,u⟩)
  all_goals
   go_wp2_with (first
    | (at_builtin;refine xU (by rfl) (.tmp 120) (.tmp 122) (by rfl) (by rfl) b.o C 1 [101] _ (by rfl) (by rfl) (by rfl) rfl (by omega) ?_;intro a2 c4 w4 X)
    | (at_builtin;refine xU (by rfl) (.tmp 132) (.tmp 134) (by rfl) (by rfl) (by simp[b.o]) X 1 [43] _ (by rfl) (by rfl) (by rfl) rfl (by omega) ?_;intro aa c5 w5 h)
    | (at_builtin;refine xU (by rfl) (.tmp 132) (.tmp 134) (by rfl) (by rfl) (by simp[b.o]) X 1 [45] _ (by rfl) (by rfl) (by rfl) rfl (by omega) ?_;intro aa c5 w5 h)
    | (at_builtin;refine xU (by rfl) (.tmp 155) (.tmp 159) (by rfl) (by rfl) (by simp[b.o]) h 2 [48,UInt8.ofNat (x+48)] _ (by rfl) (aIZ _ (x+48) (by omega) (by rfl)) (by rfl) rfl (by omega) ?_;intro F L w6 E)
    | (at_builtin;refine xU (by rfl) (.tmp 164) (.tmp 173) (by rfl) (by rfl) (by simp[b.o]) h 2 [UInt8.ofNat (x / 10+48),UInt8.ofNat (x%10+48)] _ (by rfl) (aL2 _ _ (x / 10+48) (x%10+48) (by omega) (by omega) (by rfl) (by rfl)) (by rfl) rfl (by omega) ?_;intro F L w6 E)
    | (at_builtin;refine xU (by rfl) (.tmp 136) (.tmp 150) (by rfl) (by rfl) (by simp[b.o]) h 3 [UInt8.ofNat (x / 100+48),UInt8.ofNat (x / 10%10+48),UInt8.ofNat (x%10+48)] _ (by rfl) (aHI _ _ _ (x / 100+48) (x / 10%10+48) (x%10+48) (by omega) (by omega) (by omega) (by rfl) (by rfl) (by rfl)) (by rfl) rfl (by omega) ?_;intro F L w6 E))
  (all_goals go_ret);(all_goals unfold dB);all_goals (first|rw[ac (by omega),ae u]|rw[ac (by omega),ac (by omega)]|rw[ae u])
  all_goals
   refine⟨F,L,aLs ?_,?_⟩
   ·have:=b.o;simp;omega
   ·have:=E.o;simpa using this
theorem aKD (w:H)(B g k:Nat)(b:Option Addr)(c:Nat)(S:Nat->Prop)(D:U)(dp:Int)(e:Out w w B S b c [])(d:IsB w (some ⟨g,0,none⟩) D)(f:¬S g)(i:g<w.heap.size)
  (j:D.length=k+1) (k2:k<=20) (x1:-999<=dp-1) (x2:dp-1<=999) :
  Y 257 #[.slice b 0 c,.bool false,.slice (some ⟨g,0,none⟩) 32 32,.int .i64 dp,.int .i64 ((k:Int)+1),.int .i64 k,.int .u8 101,.bool true] w (wG w B S (fN D (dp-1))):=by
 have h:=aOl w B g k 0 32 b c S D dp true e d f i j (by omega) (by omega) (by omega) x1 x2;rw[List.replicate_zero,dc,show((k:Int)+((0:Nat):Int))=k by omega]at h;exact h
open Go.RowKit Go.Sort
theorem wL (E:Nat)(h:E<=2047):bits .and .i64 (E:Int) 2047=E:=by
 have:=aBc E 2047 (by omega) (by omega);rw[show(2047:Nat)=2^11-1 from rfl,jq]at this;rw[l9 (by omega)]at this;exact this
theorem aFl (b:Nat)(h:b<18446744073709551616):bits .and .u64 (b:Int) 4503599627370495=((b%4503599627370496:Nat):Int):=by
 have:=np b 4503599627370495 h (by omega);rw[show(4503599627370495:Nat)=2^52-1 from rfl,jq]at this;exact this
theorem aRz (f:Nat)(h:f<4503599627370496):bits .or .u64 (f:Int) 4503599627370496=((4503599627370496+f:Nat):Int):=by
 have:=mj f 4503599627370496 (by omega) (by omega);rw[show f ||| 4503599627370496=4503599627370496+f from by
  rw[ti];have:=tv (i:=52) (b:=f) (by simpa using h) 1;simpa using this.symm]at this
 exact this
def tS:Array Value:=#[Value.int .u8 0,Value.int .u8 0,Value.int .u8 0,Value.int .u8 0,Value.int .u8 0,Value.int .u8 0,Value.int .u8 0,Value.int .u8 0,Value.int .u8 0,Value.int .u8 0,Value.int .u8 0,Value.int .u8 0,Value.int .u8 0,Value.int .u8 0,Value.int .u8 0,Value.int .u8 0,Value.int .u8 0,Value.int .u8 0,Value.int .u8 0,Value.int .u8 0,Value.int .u8 0,Value.int .u8 0,Value.int .u8 0,Value.int .u8 0,Value.int .u8 0,Value.int .u8 0,Value.int .u8 0,Value.int .u8 0,Value.int .u8 0,Value.int .u8 0,Value.int .u8 0,Value.int .u8 0]
theorem aJS:tS=Array.replicate 32 (.int .u8 0):=rfl
theorem aH4 (w:H)(T:TypeId):Holds (fun(b:UInt8)=>Value.int .u8 (b.toNat:Int)) (w.alloc (.cells tS T)) w.heap.size 0 (Array.replicate 32 (0:UInt8)):=fun j c=>by
 have d:j<32:=by simpa using c
 refine⟨?_,vw _ _ _ _⟩;rw[vx,im _ j c];rw[aJS];simp[d]
theorem Holds.below {w w':H}{B g:Nat}{d:Array UInt8}(h:Holds (fun(b:UInt8)=>Value.int .u8 (b.toNat:Int)) w g 0 d)(c:Below B w w')(e:g<B):Holds (fun(b:UInt8)=>Value.int .u8 (b.toNat:Int)) w' g 0 d:=fun j f=>by
 have:=h j f;rw[c.cell (by exact e),c.frozen (by exact e)];exact this
theorem Holds.drewN {w:H}{g:Nat}{d:Array UInt8}(h:Holds (fun(b:UInt8)=>Value.int .u8 (b.toNat:Int)) w g 0 d)(n:Nat):Holds (fun(b:UInt8)=>Value.int .u8 (b.toNat:Int)) (w.drewN n) g 0 d :=
 Holds.below (B:=g+1) h ⟨rfl,rfl,rfl,ag _,fun _ _=>rfl⟩ (by omega)
theorem aLN {α : Type}{P:List α -> Prop}(h0:P [])(h1:∀l a,P l->P (l++[a]))(l:List α):P l:=by
 rw[<-sd l];generalize l.reverse=r;induction r with|nil=>exact h0|cons a r ih=>{rw[pp];exact h1 _ _ ih}
theorem aL0 (l:U)(h:cL l=0):∀c∈l,c=48:=by
 induction l using aLN with|h0=>{intro c d;cases d}|h1 l c ih=>{rw[nP]at h;split at h;{rename_i b;intro x hx;rcases de.1 hx with h1|h1;{exact ih h x h1};{rw[fu.1 h1,b]}};{omega}}
theorem aMK (d:Nat)(h:1<=d):∃c∈Lib.decDigits d,c≠48:=by
 induction d using Nat.strongRecOn with|_ d ih=>{rw[Lib.decDigits];split;{rename_i f;refine⟨_,fu.2 rfl,?_⟩;intro e;have:=az UInt8.toNat e;rw[mv (by show _<256;omega)]at this;have g:(48:UInt8).toNat=48:=rfl;omega};{obtain⟨c,hc,b⟩:=ih (d / 10) (by omega) (by omega);exact⟨c,vy _ hc,b⟩}}
theorem zG (d:Nat)(h:1<=d):1<=cL (Lib.decDigits d):=by
 rcases ak 0 (cL (Lib.decDigits d))with b|b;{exact b};{exfalso;obtain⟨c,hc,e⟩:=aMK d h;exact e (aL0 _ (by omega) c hc)}
theorem aAC (g d k:Nat)(p:Int)(N:Nat)(w:H)(c:Holds (fun(b:UInt8)=>Value.int .u8 (b.toNat:Int)) w g 0 (Array.replicate 32 0))(h:1<=d)(hd:d<18446744073709551616)(f:Lib.nDigits d=N)(p1:-2000<=p)(p2:p<=2000)(i:cL (Lib.decDigits d)=k+1) :
  Y 259 #[.slice (some ⟨g,0,none⟩) 32 32,.int .u64 d,.int .i64 p,.int .i64 N] w
   fun e w'=>e=.returned (.tuple #[.int .i64 (N+p),.int .i64 ((k:Int)+1)])/\IsB w' (some ⟨g,0,none⟩) (Lib.decDigits d)/\aG (· = g) w w':=by
 have:=zN g d 32 p N w c (by omega) h hd f p1 p2;rw[i]at this
 exact this
theorem Out.first {w f w':H}{B:Nat}{S:Nat->Prop}{b:Option Addr}{c:Nat}{bs:U}(d:aG (fun _=>False) w f)(h:Out f w' B S b c bs):Out w w' B S b c bs :=
 ⟨h.own,(d.mono (fun _ _ h=>h.elim)).trans h.kept,fun y g=>(h.lies y g).imp id (fun e=>bg d.size e),h.base⟩
theorem Out.later {w d:H}{B:Nat}{S:Nat->Prop}{f:Option Addr}{c:Nat}{bs:U}(h:Out w w B S f c bs)(g:aG (fun i=>w.heap.size<=i) w d):Out d d B S f c bs :=
 ⟨h.own.kept g (fun y b e=>by have:=(h.own.at y b).2;omega),aG.refl _ _,fun y b=>.inl ((h.lies y b).resolve_right (by have:=(h.own.at y b).2;omega)),bg h.base g.size⟩
theorem aMw (f:Nat)(h:f<4503599627370496):Lib.bitLen (4503599627370496+f)=53:=by
 obtain⟨d,e,g⟩:=ug 64 (4503599627370496+f) (by omega) (by omega);have c:Lib.bitLen (4503599627370496+f)=Lib.bitLenAux 64 (4503599627370496+f):=rfl;rw[c];generalize Lib.bitLenAux 64 (4503599627370496+f)=L at *;rcases jh L 53 with b|b|b;{exfalso;have:2^L<=2^52:=cc (by omega) (by omega);omega};{exact b};{exfalso;have:2^53<=2^(L-1):=cc (by omega) (by omega);omega}
theorem aOp (f:Nat)(w:H)(h:f<4503599627370496):Y 191 #[.int .u64 ((4503599627370496+f:Nat):Int)] w fun e w'=>e=.returned (.int .i64 53)/\w=w':=by
 refine(Tryz.bits_Len64 _ _ (by omega) (by omega)).mono ?_;rintro e w' ⟨rfl,rfl⟩;have:Lib.bitLen ((4503599627370496+f:Nat):Int).toNat=53:=by{rw[fh];exact aMw f h};rw[this];exact⟨rfl,rfl⟩
theorem aHg (w:H)(B:Nat)(A:Option Addr)(c:Nat)(S:Nat->Prop)(b E f d:Nat)(p:Int)(hO:Out w w B S A c [])(T:aA w)
  (hb:b<9223372036854775808) (hE:b / 4503599627370496=E) (hf:b%4503599627370496=f) (E1:1<=E) (E2:E<=2046) (J:f<4503599627370496)
  (hS:∀k,S k->k<w.heap.size)
  (t:∀w',aA w'->Y 265 #[.int .u64 ((4503599627370496+f)*2048:Nat),.int .i64 ((E:Int)-1086)] w' (O (.tuple #[.int .u64 d,.int .i64 p]) w'))
  (L:1<=d) (hd:d<18446744073709551616) (p1:-900<=p) (p2:p<=900) :
  Y 228 #[.slice A 0 c,.float .f64 b,.int .u8 101,.int .i64 (-1)] w (wG w B S (fN ((Lib.decDigits d).take (cL (Lib.decDigits d))) ((Lib.nDigits d:Int)+p-1))):=by
 have bh:=wL E (by omega);have a3:=aFl b (by omega);rw[hf]at a3;have a4:=aRz f J;have g1:((E:Int)==2047)=false:=ai.2 (by omega);have g2:((E:Int)==0)=false:=ai.2 (by omega);have g3:(b:Int) / 4503599627370496=E:=by{omega};have g4:((b:Int) / 9223372036854775808 !=0)=false:=ir.2 (by omega);have y:=fun w=>aOp f w J;obtain⟨M,hM⟩:=ex (4503599627370496+f);rw[<-hM]at a4 y t;have g5:((M:Int)==0)=false:=ai.2 (by omega);have m2:M<9007199254740992:=by{omega};have m3:((M*2048:Nat):Int)=(M:Int)*2048:=by{omega};have m4:(E:Int)-1086=(E:Int)+-1023-11-52:=by{omega};rw[m3,m4]at t;have HL:=Z y;have bj:=aFQ;have HO:=Z hO;have HT:=Z T;have ar:=Z t;have av:=Z hS;clear hO T t hE hf hS hM y m3 m4 J E1;go_enter Tryz.func228,Tryz.ntmps228;go_wp2_with fail;go_quiet (fail);go_wp2_with (go_at_call 191;((with_reducible refine(HL.o _).mono ?_);rintro e w' ⟨rfl,rfl⟩));obtain⟨g,q⟩:=ex w.heap.size;obtain⟨W,n⟩:=ex ((w.drewN nq).alloc (.cells tS 251));have F:Below w.heap.size w W:=by{rw[n];exact((aj w.heap.size w).trans ⟨rfl,rfl,rfl,ag _,fun _ _=>rfl⟩:Below w.heap.size w (w.drewN nq)).alloc vG _};have sW:W.heap.size=g+1:=by{rw[n,q];simp};have hH:Holds (fun(b:UInt8)=>Value.int .u8 (b.toNat:Int)) W g 0 (Array.replicate 32 (0:UInt8)):=by{rw[n,q];exact aH4 (w.drewN nq) 251};have TW:=HT.o.below F vG;have K:=n;unfold tS at K;rw[<-K,<-q];clear n K;refine(ar.o W TW).mono ?_;rintro e1 w2 ⟨rfl,r⟩;have R:Holds (fun(b:UInt8)=>Value.int .u8 (b.toNat:Int)) w2 g 0 (Array.replicate 32 (0:UInt8)):=Holds.below hH r (by omega);have D:Below w.heap.size w w2:=F.trans (r.mono (by omega));have s2:g<w2.heap.size:=by{have:=r.size;omega};have T2:=HT.o.below D vG;have bf:=iV d hd;have n1:=gf d;obtain⟨N,m⟩:∃N,Lib.nDigits d=N:=⟨_,rfl⟩;rw[m]at bf n1;have z:=fun(w:H) (h:Lib.TabIs Tryz.prog w "internal/strconv.uint64pow10" .u64 Lib.pow10Tab)=>Tryz.internal_strconv_numDigits d L hd w h;rw[m]at z;have V:=Z q;clear q;have a7:=zG d L;have a8:cL (Lib.decDigits d)<=N:=by{have:=kH (Lib.decDigits d);rw[eo,m]at this;exact this};obtain⟨k,hk⟩:∃k,cL (Lib.decDigits d)=k+1:=⟨cL (Lib.decDigits d)-1,by omega⟩;have bq:k<=19:=by{omega};have bl:max (k:Int) 0=k:=by{omega};have s:=Z hk;clear a7 a8 hk;have al:=Z R;have ah:=Z D;have a0:=Z T2;have x:=Z m;have an:=Z z;clear hH r R D T2 TW F sW m z;go_wp2_with fail;obtain⟨C,v⟩:∃C:H->Prop,∀u,C u:=⟨fun _=>True,fun _=>trivial⟩;haveI:Nonempty (WIn C):=⟨⟨w2,v _⟩⟩;refine gF 10 [([0,1,2,3],4),([],5)] [6,7,8,9] C (by kernel_rfl) (by kernel_rfl) (v _) ?_;refine bT (fun l j=>?_);simp only[pick,pickZ,pickS,pickG];repeat (go_big_quiet_step (fail))
 refine am (j _ (fun Q1 ab=>?_));clear j l;simp only[pick,pickZ,pickS,pickG];go_wp2_with fail;refine(an.o _ (a0.o.drewN 1).u10).mono ?_;rintro e w3 ⟨rfl,a9⟩;subst a9;go_wp2_with fail;refine ab _ _ (v _) (bT (fun l j=>am (j _ (fun Q2 ad=>?_))));clear j l ab Q1;simp only[pick,pickZ,pickS,pickG];go_wp2_with fail;refine(aAC g d k p N (w2.drewN 1) (Holds.drewN al.o 1) L hd x.o (by omega) (by omega) s.o).mono ?_;rintro e w3 ⟨rfl,S3,K3⟩;have ao:=Z S3;have X:=Z K3;clear S3 K3;go_wp2_with fail;refine ad _ _ (v _) (iH (fun l j=>?_));clear ad Q2;simp only[pick,pickZ,pickS,pickG];repeat (go_big_quiet_step (fail))
 refine am (j _ (fun Q3 bk=>?_));clear j l;simp only[dj,dt];go_wp2_with fail;have aa:aG (fun i=>w.heap.size<=i) w w3:=(aG.of_below ah.o).trans ((((aG.refl (· = g) w2).drewN 1).trans X.o).mono (fun i _ e=>by have:=V.o;omega));have a1:aG (fun _=>False) w w3:=aa.mono (fun i hi e=>by omega);have O3:=HO.o.later aa;have a2:IsB w3 (some ⟨g,0,none⟩) ((Lib.decDigits d).take (k+1)):=ao.o.take (k+1);have a6:((Lib.decDigits d).take (k+1)).length=k+1:=by{have:=s.o;have:=kH (Lib.decDigits d);rw[br];omega};have bd:g<w3.heap.size:=by{have:=X.o.size;simp at this;omega};refine(aKD w3 B g k A c S _ ((N:Int)+p) O3 a2 (fun e=>by have:=av.o g e;have:=V.o;omega) bd a6 (by omega) (by omega) (by omega)).mono ?_;rintro e w4 ⟨a5,c4,rfl,O4⟩;go_wp2;go_ret;refine⟨a5,c4,?_,?_⟩;{rw[s.o,x.o];rfl};{rw[s.o,x.o];exact Out.first a1 O4}
open Go.RowKit
def aCe (b:Nat)(pr:Int)(txt:U):Prop :=
 ∀(w:H) (B:Nat) (ad:Option Addr) (c:Nat) (S:Nat->Prop),Out w w B S ad c []->aA w->(∀k,S k->k<w.heap.size)->Y 228 #[.slice ad 0 c,.float .f64 b,.int .u8 101,.int .i64 pr] w (wG w B S txt)
def nZ (b:Nat)(txt:U):Prop:=aCe b (-1) txt
theorem aRq:∃b:Array Value,b.size=24/\∀w:H,(Instr.makeSlice 35 (.int .i64 0) (.int .i64 24)).run Tryz.prog w=.ok (.slice (some ⟨w.heap.size,0,none⟩) 0 24) (w.alloc (.cells b 5)):=by
 obtain⟨c,hi,d,e,f⟩:=cq aF7;refine⟨madeCells (Value.int .u8 0).cells (24*c.size),?_,fun w=>?_⟩;{rw[e,aGX 24];simp};{exact run_make (P:=Tryz.prog) w 35 5 c (.int .u8 0) Tryz.underlying35 hi d .i64 .i64 0 24 (by omega) (by omega) (by rw[f];omega) (by omega)}
theorem aMY (b:Nat)(pr:Int)(txt:U)(w:H)(T:aA w)(p1:-1<=pr)(p2:pr<=20)(r:aCe b pr txt) :
  Y 200 #[.float .f64 b,.int .u8 101,.int .i64 pr,.int .i64 64] w (O (.string ⟨txt.toArray⟩) w):=by
 obtain⟨q,s,K⟩:=aRq;obtain⟨g,f⟩:=ex w.heap.size;obtain⟨W,d⟩:=ex (w.alloc (.cells q 5));have i:Below w.heap.size w W:=by{rw[d];exact(aj _ _).alloc vG _};have D:W.heap.size=g+1:=by{rw[d,f];simp};have m:Out W W g (· = g) (some ⟨g,0,none⟩) 24 []:=by{refine⟨?_,aG.refl _ _,fun y C=>.inl (by cases C;rfl),by omega⟩;rw[d,f];exact World.ownsRow_made w q 24 vG (by unfold maxLen;omega) (by rw[s])};have p:=T.below i vG;have j:=r W g (some ⟨g,0,none⟩) 24 (· = g) m p (fun k J=>by omega);have t:=fun(w:H) (x:Option Addr) (bs:U) (n c:Nat)=>rX (P:=Tryz.prog) w 35 5 9 Tryz.underlying35 Tryz.underlying5 Tryz.underlying9 x bs n c;have v:=Z t;have u:=Z j;have A:=Z d;have l:=Z f;clear t j r T p m d f s D;have L:max (pr+4) 24=24:=by{omega};go_enter Tryz.func200,Tryz.ntmps200;go_wp2_with fail;rw[<-A.o,<-l.o];refine u.o.mono ?_;rintro e E ⟨B,c2,rfl,h⟩;have k2:=v.o E B txt txt.length c2 rfl h.own.isB;have z:=Z h;clear h;go_wp2;go_ret;refine⟨rfl,?_⟩;have F:=l.o;exact i.trans (z.o.kept.below (by have:=i.size;omega) (fun k _ e=>by omega))
theorem aF2 (b:Nat)(pr:Int)(txt:U)(w:H)(T:aA w)(p1:-1<=pr)(p2:pr<=20)(d:aCe b pr txt) :
  Y 158 #[.float .f64 b,.int .u8 101,.int .i64 pr,.int .i64 64] w (O (.string ⟨txt.toArray⟩) w):=by
 have g:=Z d;have h:=Z T;clear d T;go_enter Tryz.func158,Tryz.ntmps158;go_wp2_with fail;refine(aMY b pr txt _ h.o p1 p2 g.o).mono ?_;rintro e i ⟨rfl,c⟩;have f:=Z c;clear c;go_wp2;go_ret;exact⟨rfl,f.o⟩
structure nB (txt D:U) (x:Int) (hd tl:U):Prop where
 cut:Lib.cut txt [101]=(hd,tl,true)
 num:Lib.atoi tl=some x
 rep:Lib.replace hd [46] [] 1=D
 len:txt.length<=1000
 tlen:tl.length<=18
 hlen:hd.length<=1000
 cnt:Lib.countB ⟨hd.toArray⟩ ⟨#[46]⟩<=1000
 lo:-1000<=x
 hi:x<=1000
theorem fE (l:U):(⟨l.toArray⟩:I).size=l.length:=rfl
theorem aQY (txt hd b:U)(w:H)(T:aA w)(h:Lib.cut txt [101]=(hd,b,true))(d:txt.length<=1000) :
  Y 71 #[.string ⟨txt.toArray⟩,.string { data:=#[101] }] w fun e w'=>e=.returned (.tuple #[.string ⟨hd.toArray⟩,.string ⟨b.toArray⟩,.bool true])/\∃n,w'=w.drewN n:=by
 obtain⟨m,c⟩:=T.most;have:=Tryz.strings_Cut ⟨txt.toArray⟩ { data:=#[101] } m w (by rw[fE];omega) c;have e:Lib.cut (⟨txt.toArray⟩:I).data.toList ({ data:=#[101] }:I).data.toList=(hd,b,true):=h;rw[e]at this
 exact this
theorem aHS (b:U)(x:Int)(w:H)(h:Lib.atoi b=some x)(c:b.length<=18) :
  Y 113 #[.string ⟨b.toArray⟩] w (O (.tuple #[.int .i64 x,.nilIface]) w):=by
 refine(Tryz.strconv_Atoi ⟨b.toArray⟩ x (by rw[aY];exact c) h w).mono ?_;rintro e w' ⟨rfl,t,rfl⟩;exact⟨rfl,sk w 5 t⟩
theorem aJe (hd D:U)(w:H)(T:aA w)(h:Lib.replace hd [46] [] 1=D)(c:hd.length<=1000)(_hc:Lib.countB ⟨hd.toArray⟩ ⟨#[46]⟩<=1000) :
  Y 133 #[.string ⟨hd.toArray⟩,.string { data:=#[46] },.string { data:=#[] },.int .i64 1] w (O (.string ⟨D.toArray⟩) w):=by
 obtain⟨m,b⟩:=T.most;have:=Tryz.strings_Replace ⟨hd.toArray⟩ { data:=#[46] } { data:=#[] } 1 m w (by rw[fE];omega) b (by show 1<=1;omega) (by
  have e:({ data:=#[] }:I).size=0:=rfl;rw[fE,e];omega)
 have e:Lib.replace (⟨hd.toArray⟩:I).data.toList ({ data:=#[46] }:I).data.toList ({ data:=#[] }:I).data.toList 1=D:=h;rw[e]at this
 exact this
theorem mQ (b:Nat)(txt D hd h:U)(x:Int)(w:H)(T:aA w)(m:nZ b txt)(c:nB txt D x hd h) :
  Y 114 #[.float .f64 b] w (O (.tuple #[.string ⟨D.toArray⟩,.int .i64 (x+1)]) w):=by
 have q:=Z m;have g:=Z T;have HP:=Z c;have x1:=c.lo;have x2:=c.hi;clear m T c;go_enter Tryz.func114,Tryz.ntmps114;go_wp2_with fail;refine(aF2 b (-1) txt _ g.o (by decide) (by decide) q.o).mono ?_;rintro e t ⟨rfl,f⟩;have k:=Z f;have r:=Z (g.o.below f vG);clear f;go_wp2_with fail;refine(aQY txt hd h _ r.o HP.o.cut HP.o.len).mono ?_;rintro e w3 ⟨rfl,n,rfl⟩;go_wp2_with fail;refine(aHS h x _ HP.o.num HP.o.tlen).mono ?_;rintro e w3 ⟨rfl,i⟩;have d:Below w.heap.size w w3:=(k.o.trans ⟨rfl,rfl,rfl,ag _,fun _ _=>rfl⟩:Below w.heap.size w (t.drewN n)).trans (i.mono k.o.size);have l:=Z d;have s:=Z (g.o.below d vG);clear i d;go_wp2_with fail;refine(aJe hd D _ s.o HP.o.rep HP.o.hlen HP.o.cnt).mono ?_;rintro e u ⟨rfl,j⟩;have p:=Z (l.o.trans (j.mono l.o.size));clear j;go_wp2;go_ret2;exact⟨rfl,p.o⟩
