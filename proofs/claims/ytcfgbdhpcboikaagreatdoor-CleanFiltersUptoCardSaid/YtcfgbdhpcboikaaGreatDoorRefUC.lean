/-
The document's utf8: begins, walked.
-/
import Derived.Test.YtcfgbdhpcboikaaGreatDoorLookW
namespace Go.Proofs.YtcfgbdhpcboikaaGreatDoor
set_option maxHeartbeats 2000000
set_option maxRecDepth 100000
open Go.RowKit PU8
theorem aOU {x y:Bool}{a b c d:Int}(e:x=y)(h:a=c)(f:b=d):Ending.returned (.tuple #[.bool x,.int .i64 a,.int .i64 b])=.returned (.tuple #[.bool y,.int .i64 c,.int .i64 d]):=by rw[e,h,f]
theorem aPd (c:Nat)(h:c<256):(PU8.size c).1<=4/\(PU8.size c).2<256:=by
 unfold PU8.size;by_cases a:c<128;{rw[af a];simp only;omega};rw[ae a];by_cases b:192<=c/\c<224;{rw[af b];simp only;omega};rw[ae b];by_cases d:224<=c/\c<240;{rw[af d];simp only;omega};rw[ae d];by_cases e:240<=c/\c<248;{rw[af e];simp only;omega};rw[ae e];simp only;omega
theorem aFD (g c cap i k a j:Nat)(L:U)(w:H)(f:G (bV w g c L))(hi:i<L.length)(n:L.length<=140737488355328)(q:1<=k)(r:k<=4)
  (b:G (PU8.size (L[i]'hi).toNat=(a,j))) (t:a<=4) (s:a=0\/a<k\/L.length<i+k) :
  Y 141 #[.slice (some ⟨g,c,none⟩) L.length cap,.int .i64 i,.int .i64 k] w fun e w'=>e=.returned (.tuple #[.bool false,.int .i64 0,.int .i64 0])/\w=w':=by
 have p:=f.o i hi;by_cases d:a=0
 ·subst d;go_enter Tryz.func141,Tryz.ntmps141
  go_wp2_with (go_at_call 180;refine(tS _ _ _ _ b).mono ?_;rintro e w' ⟨rfl,rfl⟩)
  go_ret3;exact⟨rfl,rfl⟩
 ·have u:((a:Int)==0)=false:=by simp;omega
  by_cases l:a<k
  ·have h:decide ((a:Int)<(k:Int))=true:=by simp;omega
   go_enter Tryz.func141,Tryz.ntmps141
   go_wp2_with (go_at_call 180;refine(tS _ _ _ _ b).mono ?_;rintro e w' ⟨rfl,rfl⟩)
   go_ret3;exact⟨rfl,rfl⟩
  ·have m:L.length<i+k:=by omega
   have h:decide ((a:Int)<(k:Int))=false:=by simp;omega
   go_enter Tryz.func141,Tryz.ntmps141
   go_wp2_with (go_at_call 180;refine(tS _ _ _ _ b).mono ?_;rintro e w' ⟨rfl,rfl⟩)
   go_ret3;exact⟨rfl,rfl⟩
theorem aI6 (L:U)(i k a b:Nat)(hi:i<L.length)(_hk:1<=k)(e:PU8.size (L[i]'hi).toNat=(a,b))(c:a≠0)(d:k<=a)(f:i+k<=L.length) :
  begins (aI (L.drop i)) k=match PU8.follow (k-1) b (aI (L.drop (i+1)))with
   | none=>(false,0,0)
   | some v=>(decide (max (PU8.widen (a-k) v v).1 (PU8.least a)<=min (PU8.widen (a-k) v v).2 0x10ffff)&&!(decide (0xd800<=max (PU8.widen (a-k) v v).1 (PU8.least a))&&decide (min (PU8.widen (a-k) v v).2 0x10ffff<=0xdfff)),a,v):=by
 rw[aAh L i hi,begins_at _ _ k a b e c d (by unfold aI;rw[dc,bm];omega)];cases PU8.follow (k-1) b (aI (L.drop (i+1)))<;>rfl
theorem aFE (g D cap i k f m:Nat)(b:Bool)(n v:Nat)(L:U)(w:H)(y:G (bV w g D L))(hi:i<L.length)(hL:L.length<=140737488355328)(x:1<=k)(T:k<=4)
  (B:G (PU8.size (L[i]'hi).toNat=(f,m))) (A:f<=4) (W:m<256) (K:f≠0) (z:k<=f) (V:i+k<=L.length) (hr:G (begins (aI (L.drop i)) k=(b,n,v))) :
  Y 141 #[.slice (some ⟨g,D,none⟩) L.length cap,.int .i64 i,.int .i64 k] w fun e w'=>e=.returned (.tuple #[.bool b,.int .i64 n,.int .i64 v])/\w=w':=by
 have M:=y.o i hi;have t0:((f:Int)==0)=false:=by simp;omega
 have t1:decide ((f:Int)<(k:Int))=false:=by simp;omega
 have t:=Z (aI6 L i k f m hi x B.o K z V);go_enter Tryz.func141,Tryz.ntmps141
 go_wp2_with (go_at_call 180;refine(tS _ _ _ _ B).mono ?_;rintro e w' ⟨rfl,rfl⟩)
 clear M;go_loop [6,7,8,10,11] (fun r6 r7 r8 a j=>r6=.bool false/\r7=.int .i64 0/\r8=.int .i64 0/\∃v' p:Nat,a=.int .i64 v'/\j=.int .i64 p/\G (lU L i k m p v')) (fun _ _ _ _ j=>k-(intOf j).toNat)
 case atStart=>exact⟨rfl,rfl,rfl,m,1,rfl,rfl,Z (lU.start L i k m x W)⟩
 case round =>
  obtain⟨rfl,rfl,rfl,v',j,rfl,rfl,h⟩:=hrel;have X:=h.o.le T;have ab:=h.o.lo;have ac:=h.o.hi;rcases ak j k with hjk|hjk
  ·have l:i+j<L.length:=by omega
   have R:=y.o (i+j) l;have Q:=(L[i+j]'l).toNat_lt;obtain⟨c,u⟩:∃c,(L[i+j]'l).toNat=c:=⟨_,rfl⟩
   rw[u]at R Q
   have q:=Z u;clear u;by_cases N:c<128
   ·have d:=t.o;rw[hr.o,h.o.none hjk l c q.o (.inl N)]at d
    simp only[ie]at d;obtain⟨rfl,rfl,rfl⟩:=d;go_wp2
    go_ret3;exact⟨rfl,rfl⟩
   ·by_cases P:191<c
    ·have d:=t.o;rw[hr.o,h.o.none hjk l c q.o (.inr P)]at d
     simp only[ie]at d;obtain⟨rfl,rfl,rfl⟩:=d;go_wp2
     go_ret3;exact⟨rfl,rfl⟩
    ·have r:=Z (h.o.next hjk l c q.o (by omega) (by omega));go_wp2
     go_round
     case rel=>exact⟨_,_,_,_,_,⟨rfl,rfl,rfl,v'*64+c-128,rfl,j+1,rfl,r⟩,rfl,rfl,rfl,by congr 1;omega,by congr 1⟩
     case measure=>simp[intOf];omega
  ·have E:=Z (h.o.done hjk);go_wp2
   go_loop [12,13,14] (fun a b j=>∃lo hi p:Nat,a=.int .i64 lo/\b=.int .i64 hi/\j=.int .i64 p/\G (oD f k v' p lo hi)) (fun _ _ j=>f-(intOf j).toNat)
   case atStart=>exact⟨v',v',k,rfl,rfl,rfl,Z (oD.start f k v' z X)⟩
   case round =>
    obtain⟨lo,S,C,rfl,rfl,rfl,s⟩:=hrel;obtain⟨ad,aa⟩:=s.o.le x A;rcases ak C f with hjn|hjn
    ·have r:=Z (s.o.next hjn);go_wp2
     go_round
     case rel=>exact⟨lo*64,S*64+63,C+1,by go_num,by go_num,by go_num,r⟩
     case measure=>simp[intOf];omega
    ·have F:=Z (s.o.done hjn);have d:=t.o;rw[hr.o,E.o]at d
     simp only at d;rw[F.o]at d
     simp only[ie]at d;obtain⟨d,rfl,rfl⟩:=d;have J:=Z d;clear d;go_wp2_with (go_at_call 181;refine(aIf n A _).mono ?_;rintro e w' ⟨rfl,rfl⟩)
     all_goals
      go_ret3;refine⟨aOU ?_ rfl rfl,rfl⟩;rw[J.o,ay];simp;omega
theorem uK (g d cap i k:Nat)(b:Bool)(n v:Nat)(L:U)(w:H)(m:G (bV w g d L))(hi:i<L.length)(p:L.length<=140737488355328)(q:1<=k)(r:k<=4)(hr:G (begins (aI (L.drop i)) k=(b,n,v))) :
  Y 141 #[.slice (some ⟨g,d,none⟩) L.length cap,.int .i64 i,.int .i64 k] w fun e w'=>e=.returned (.tuple #[.bool b,.int .i64 n,.int .i64 v])/\w=w':=by
 obtain⟨j,l⟩:=aPd (L[i]'hi).toNat (L[i]'hi).toNat_lt;obtain⟨a,f,c⟩:∃a f,PU8.size (L[i]'hi).toNat=(a,f):=⟨_,_,rfl⟩
 rw[c]at j l
 by_cases s:a=0\/a<k\/L.length<i+k
 ·have t:begins (aI (L.drop i)) k=(false,0,0):=by
   have hlen:(aI (L.drop i)).length=L.length-i:=by unfold aI;rw[dc,bm]
   have u:(aI (L.drop (i+1))).length=L.length-(i+1):=by unfold aI;rw[dc,bm]
   rw[aAh L i hi];unfold begins;simp only[c];rw[af (by simp only[bv];omega)]
  have h:=hr.o;rw[t]at h
  simp only[ie]at h;obtain⟨rfl,rfl,rfl⟩:=h;exact aFD g d cap i k a f L w m hi p q r (Z c) j s
 ·exact aFE g d cap i k a f b n v L w m hi p q r (Z c) j l (by omega) (by omega) (by omega) hr
open Go.RowKit PU8
theorem aOW {x y:Bool}{a b c d:Int}(h:a=c)(f:b=d)(e:x=y):Ending.returned (.tuple #[.int .i64 a,.int .i64 b,.bool x])=.returned (.tuple #[.int .i64 c,.int .i64 d,.bool y]):=by rw[e,h,f]
structure jE (b:List Nat) (k m:Nat):Prop where
 lo:1<=k
 hi:k<=5
 o:pieceU b=pieceFrom b (5-k) k m
theorem jE.hit {b:List Nat}{k m v:Nat}(h:jE b k m)(c:k<5)(a:begins b k=(true,k,v)):pieceU b=(k,v,true):=by
 rw[h.o,show 5-k=(5-(k+1))+1 from by omega];unfold pieceFrom;rw[a,af ⟨rfl,rfl⟩]
theorem jE.some {b:List Nat}{k m n v:Nat}(h:jE b k m)(e:k<5)(a:begins b k=(true,n,v))(d:n≠k):jE b (k+1) k:=by
 have f:=h.lo;refine⟨by omega,by omega,?_⟩;rw[h.o,show 5-k=(5-(k+1))+1 from by omega];conv=>lhs;unfold pieceFrom
 rw[a,ae (fun c=>d c.2),af rfl]
theorem jE.no {b:List Nat}{k m n v:Nat}(h:jE b k m)(d:k<5)(a:begins b k=(false,n,v)):jE b (k+1) m:=by
 have e:=h.lo;refine⟨by omega,by omega,?_⟩;rw[h.o,show 5-k=(5-(k+1))+1 from by omega];conv=>lhs;unfold pieceFrom
 rw[a,ae (fun c=>by cases c.1),ae (by simp)]
theorem jE.done {b:List Nat}{k m:Nat}(h:jE b k m)(a:5<=k):pieceU b=(m,0xfffd,false):=by
 rw[h.o,show 5-k=0 from by omega];rfl
theorem aIg (g h cap i:Nat)(n v:Nat)(t:Bool)(L:U)(w:H)(r:G (bV w g h L))(hi:i<L.length)(s:L.length<=140737488355328)(hr:G (pieceU (aI (L.drop i))=(n,v,t))) :
  Y 82 #[.slice (some ⟨g,h,none⟩) L.length cap,.int .i64 i] w fun e w'=>e=.returned (.tuple #[.int .i64 n,.int .i64 v,.bool t])/\w=w':=by
 go_enter Tryz.func82,Tryz.ntmps82
 go_wp2
 go_loop [4,5,6,7,8] (fun z A B m k=>z=.int .i64 0/\A=.int .i64 0/\B=.bool false/\∃y x:Nat,m=.int .i64 y/\k=.int .i64 x/\G (jE (aI (L.drop i)) x y)) (fun _ _ _ _ k=>5-(intOf k).toNat)
 case atStart=>exact⟨rfl,rfl,rfl,1,1,rfl,rfl,Z ⟨ah _,by omega,rfl⟩⟩
 case round =>
  obtain⟨rfl,rfl,rfl,m,k,rfl,rfl,c⟩:=hrel;have C:=c.o.lo;have D:=c.o.hi;rcases ak k 5 with f|f
  ·obtain⟨q,d,j,a⟩:∃q d j,begins (aI (L.drop i)) k=(q,d,j):=⟨_,_,_,rfl⟩
   have l:=Z a;cases q with
   | true =>
    by_cases u:d=k
    ·subst u;have b:=c.o.hit f a;rw[hr.o]at b
     simp only[ie]at b;obtain⟨rfl,rfl,rfl⟩:=b;clear a;go_wp2_with (go_at_call 141;refine(uK g h cap i n true n v L _ r hi s (by omega) (by omega) l).mono ?_;rintro e w' ⟨rfl,rfl⟩)
     go_ret3;exact⟨rfl,rfl⟩
    ·have p:=Z (c.o.some f a u);have E:((d:Int)==(k:Int))=false:=by rw[ai];omega
     clear a;go_wp2_with (go_at_call 141;refine(uK g h cap i k true d j L _ r hi s (by omega) (by omega) l).mono ?_;rintro e w' ⟨rfl,rfl⟩)
     go_round
     case rel=>exact⟨rfl,rfl,rfl,k,k+1,rfl,by go_num,p⟩
     case measure=>simp[intOf];omega
   | false =>
    have p:=Z (c.o.no f a);clear a;go_wp2_with (go_at_call 141;refine(uK g h cap i k false d j L _ r hi s (by omega) (by omega) l).mono ?_;rintro e w' ⟨rfl,rfl⟩)
    go_round
    case rel=>exact⟨rfl,rfl,rfl,m,k+1,rfl,by go_num,p⟩
    case measure=>simp[intOf];omega
  ·have b:=c.o.done f;rw[hr.o]at b
   simp only[ie]at b;obtain⟨rfl,rfl,rfl⟩:=b;go_wp2
   go_ret3;exact⟨aOW rfl (by simp) rfl,rfl⟩
open Go.RowKit PU8
theorem lY (l:List Nat)(h:∀n∈l,n<256):Lib.byteCells (l.map UInt8.ofNat)=l.map (fun n=>Value.int .u8 (n:Nat)):=by
 unfold Lib.byteCells;rw[oz];apply o8;intro n a;simp only[Function.comp_apply];rw[ofN n (h n a)]
def xK (w:H)(n:Nat)(arr:Array Value)(e:Ending)(w':H):Prop:=e=.returned (.slice (some ⟨w.heap.size,0,none⟩) n n)/\w'=w.alloc (.cells arr 5)
theorem aOP (c:Nat)(h:c<128)(w:H)(arr:Array Value)(a:G (arr=#[.int .u8 c])):Y 132 #[.int .i64 c] w (xK w 1 arr):=by
 go_enter Tryz.func132,Tryz.ntmps132;go_wp2;go_ret;exact⟨rfl,by rw[a.o]⟩
theorem aOQ (c:Nat)(b:128<=c)(h:c<2048)(w:H)(arr:Array Value)(a:G (arr=#[.int .u8 (192+(c:Int) / 64),.int .u8 (128+(c:Int)%64)])):Y 132 #[.int .i64 c] w (xK w 2 arr):=by
 go_enter Tryz.func132,Tryz.ntmps132;go_wp2;go_ret;exact⟨rfl,by rw[a.o]⟩
theorem aOR (c:Int)(b:2048<=c)(h:c<65536)(w:H)(arr:Array Value)(a:G (arr=#[.int .u8 (224+c / 4096),.int .u8 (128+c / 64%64),.int .u8 (128+c%64)])):Y 132 #[.int .i64 c] w (xK w 3 arr):=by
 go_enter Tryz.func132,Tryz.ntmps132;go_wp2;go_ret;exact⟨rfl,by rw[a.o]⟩
theorem aOS (c:Int)(b:65536<=c)(h:c<=1114111)(w:H)(arr:Array Value)(a:G (arr=#[.int .u8 (240+c / 262144),.int .u8 (128+c / 4096%64),.int .u8 (128+c / 64%64),.int .u8 (128+c%64)])):Y 132 #[.int .i64 c] w (xK w 4 arr):=by
 go_enter Tryz.func132,Tryz.ntmps132;go_wp2;go_ret;exact⟨rfl,by rw[a.o]⟩
theorem aIa (c:Nat)(h:c<=1114111)(w:H):Y 132 #[.int .i64 c] w (xK w (aV c).length (Lib.byteCells (aV c)).toArray):=by
 unfold aV;by_cases a:c<128;{have f:encN c=[c]:=by{unfold encN;rw[af a]};rw[f];refine aOP c a w _ ?_;show _=_;rw[lY _ (by simp;omega)];rfl};by_cases b:c<2048;{rw[enc_two c (by omega) b];refine aOQ c (by omega) b w _ ?_;show _=_;rw[lY _ (by simp;omega)];have E1:((192+c / 64:Nat):Int)=192+(c:Int) / 64:=by{omega};have E3:((128+c%64:Nat):Int)=128+(c:Int)%64:=by{omega};simp only[cg,fa,E1,E3]};by_cases e:c<65536;{rw[enc_three c (by omega) e];refine aOR c (by omega) (by omega) w _ ?_;show _=_;rw[lY _ (by simp;omega)];have E1:((224+c / 4096:Nat):Int)=224+(c:Int) / 4096:=by{omega};have E2:((128+c / 64%64:Nat):Int)=128+(c:Int) / 64%64:=by{omega};have E3:((128+c%64:Nat):Int)=128+(c:Int)%64:=by{omega};simp only[cg,fa,E1,E2,E3]};{rw[enc_four c (by omega)];refine aOS c (by omega) (by omega) w _ ?_;show _=_;rw[lY _ (by simp;omega)];have E1:((240+c / 262144:Nat):Int)=240+(c:Int) / 262144:=by{omega};have E2:((128+c / 4096%64:Nat):Int)=128+(c:Int) / 4096%64:=by{omega};have E3:((128+c / 64%64:Nat):Int)=128+(c:Int) / 64%64:=by{omega};have d:((128+c%64:Nat):Int)=128+(c:Int)%64:=by{omega};simp only[cg,fa,E1,E2,E3,d]}
open Go.RowKit PU8
def oQ (r:Nat):Value:=.int .i32 (r:Nat)
theorem Tryz.info21:(Tryz.prog.info? 21).map (fun i=>(i.zero,i.size,i.bytes))=some (some (.int .i32 0),1,4):=by kernel_rfl
theorem aN1 {L:U}{k:Nat}(h:k<L.length):L.drop k≠[]:=by
 intro e;have:=az List.length e;rw[bm]at this;simp at this;omega
structure qT (L:U) (k:Nat) (rs:List Nat):Prop where
 le:k<=L.length
 len:rs.length<=k
 o:rs++fH (L.drop k)=fH L
theorem qT.start (L:U):qT L 0 []:=⟨bb _,ah _,rfl⟩
theorem qT.next {L:U}{k:Nat}{f:List Nat}{n v:Nat}{t:Bool}(h:qT L k f)(i:k<L.length)(j:pieceU (aI (L.drop k))=(n,v,t)):1<=n/\k+n<=L.length/\v<=1114111/\qT L (k+n) (f++[v]):=by
 have a:=aN1 i;have b:=qH _ a;have e:=aDv _ a;have c:=aDw _ a;have g:=aG9 _ a;have d:=oR _ a;rw[j]at b e c d;simp only at b e c d;rw[bm]at g;refine⟨b,by omega,c.2,by omega,?_,?_⟩;{have:=h.len;simp;omega};{rw[cv,kr,<-i5,<-d];exact h.o}
theorem qT.done {L:U}{k:Nat}{a:List Nat}(h:qT L k a)(b:L.length<=k):a=fH L:=by
 have:=h.o;rw[dy b,yY,eh]at this;exact this
def aDd (L:U)(w:H)(e:Ending)(w':H):Prop:=∃v,e=.returned v/\aF w.heap.size 21 1 v (fH L).length ((fH L).map oQ) w w'
theorem aIi (g c cap:Nat)(L:U)(w:H)(m:G (bV w g c L))(r:g<w.heap.size)(A:L.length<=1000000000) :
  Y 78 #[.slice (some ⟨g,c,none⟩) L.length cap] w (aDd L w):=by
 obtain⟨z,hi,u,x,y⟩:=cx Tryz.info21;go_enter Tryz.func78,Tryz.ntmps78;go_wp2;go_loopw [3,4] (fun o i wx=>∃(k:Nat) (a:List Nat),i=.int .i64 k/\G (qT L k a)/\G (aF w.heap.size 21 1 o a.length (a.map oQ) w wx)) (fun _ i _=>L.length-(intOf i).toNat);case atStart=>exact⟨0,[],rfl,Z (qT.start L),Z (aF.nil w 21 1)⟩
 case round =>obtain⟨k,a,rfl,b,d⟩:=hrel;have B:=b.o.le;have C:=b.o.len;rcases ak k L.length with hlt|s;{have p:G (bV wr g c L):=m.o.below d.o.bel r;obtain⟨n,v,t,f⟩:∃n v t,pieceU (aI (L.drop k))=(n,v,t):=⟨_,_,_,rfl⟩;obtain⟨D,hn2,hv,h⟩:=b.o.next hlt f;have HN:=Z h;have l:=Z f;clear f h;go_wp2_with fail;refine(aIg g c cap k n v t L wr p hlt (by omega) l).mono ?_;rintro e w' ⟨rfl,rfl⟩;go_wp2_with (at_builtin;refine aU (by rfl) _ _ 85 (by rfl) 21 z (.int .i32 0) 1 4 Tryz.underlying85 hi u x y rfl (by decide) _ _ _ rfl d.o #[.int .i32 v] rfl rfl rfl rfl (by omega) (by omega) ?_);intro v' w' q _;go_wp2;go_roundw;(case rel=>exact⟨k+n,a++[v],by go_num,HN,Z (q.o.cast (by simp) (by simp[oQ]))⟩);case measure=>simp[intOf];omega};{have j:=Z (b.o.done s);go_wp2;go_ret;exact⟨_,rfl,by rw[<-j.o];exact d.o⟩}
open Go.RowKit PU8
structure vN (rs:List Nat) (k:Nat) (bs:U):Prop where
 le:k<=rs.length
 len:bs.length<=4*k
 o:bs=(rs.take k).flatMap aV
theorem vN.start (a:List Nat):vN a 0 []:=⟨bb _,ah _,rfl⟩
theorem vN.next {a:List Nat}{k:Nat}{b:U}(h:vN a k b)(c:k<a.length):vN a (k+1) (b++aV a[k]):=by
 refine⟨c,?_,?_⟩;{have:=h.len;have:=(rQ a[k]).2;simp;omega};{rw[fl c,qb,<-h.o];simp}
theorem aOn (w:H)(cs:List Value)(E:TypeId):∀j u,cs[j]?=some u->(w.alloc (.cells cs.toArray E)).cell? ((⟨w.heap.size,0,none⟩:Addr).add j)=some u:=by
 intro j u b;have a:(⟨w.heap.size,0,none⟩:Addr).add j=⟨w.heap.size,j,none⟩:=by{unfold Addr.add;split<;>simp_all};rw[a,au _ _ j cs.toArray E (0,0) (cc w _)];simpa using b
theorem aDR (L:U):(Lib.byteCells L).all (fun u=>u.oneCell')=true:=da.2 (wW L)
theorem aGA (b:List Nat)(z:G (∀r∈b,Val r))(M:b.length<=1000000000)(v:Value)(w:H)(l:G (jT w v b.length (b.map oQ))) :
  Y 79 #[v] w (O (.string ⟨(b.flatMap aV).toArray⟩) w):=by
 obtain⟨D,hi,A,B,C⟩:=cx Tryz.info5;obtain⟨a,c,rfl,_⟩:=l.o;go_enter Tryz.func79,Tryz.ntmps79;go_wp2;go_loopw [3,4] (fun o i wx=>∃(k:Nat) (d:U),i=.int .i64 k/\G (vN b k d)/\G (aF w.heap.size 5 1 o d.length (Lib.byteCells d) w wx)) (fun _ i _=>b.length-(intOf i).toNat);case atStart=>exact⟨0,[],rfl,Z (vN.start b),Z (aF.nil w 5 1)⟩
 case round =>obtain⟨k,d,rfl,h,f⟩:=hrel;have K:=h.o.le;have L:=h.o.len;rcases ak k b.length with hlt|J;{obtain⟨g,off,c',hva,n⟩:=(l.o.below f.o.bel (ah _)).get k (by simpa using hlt);simp only[ce,fk]at hva;obtain⟨rfl,rfl⟩:=hva;rw[nr]at n;have j:=z.o b[k] (dz hlt);have HN:=Z (h.o.next hlt);have y:=j.2;have q:=Z j;have p:=Z (rQ b[k]);generalize b[k]=r at *;unfold oQ at n;clear j;have F:=p.o.2;go_wp2_with fail;refine(aKm r q.o wr).mono ?_;rintro e w' ⟨rfl,rfl⟩;go_wp2_with fail;refine(aIa r y wr).mono ?_;rintro e w' ⟨rfl,rfl⟩;go_wp2_with (at_builtin;refine mN (by rfl) _ _ 35 (by rfl) 5 D (.int .u8 0) 1 1 Tryz.underlying35 hi A B C rfl (by decide) _ _ _ rfl (f.o.alloc _) ⟨wr.heap.size,0,none⟩ (aV r).length (aV r).length (Lib.byteCells (aV r)) rfl (by rw[kG,df]) (aOn wr _ 5) (aDR _) (by omega) (by omega) ?_);intro v' w' u _;go_wp2;go_roundw;(case rel=>exact⟨k+1,d++aV r,by go_num,HN,Z (u.o.cast (by simp) (nG _ _))⟩);case measure=>simp[intOf];omega};{have x:k=b.length:=by{omega};have m:d=b.flatMap aV:=by{have:=h.o.o;rw[x,kh]at this;exact this};have s:=Z m;obtain⟨t,c1,rfl,_,_⟩:=f.o.slice;have E:=qK (P:=Tryz.prog) wr 35 5 9 Tryz.underlying35 Tryz.underlying5 Tryz.underlying9 t d d.length c1 rfl (f.o.isB rfl);clear m;go_wp2;go_ret;refine⟨?_,f.o.bel⟩;rw[s.o];rfl}
