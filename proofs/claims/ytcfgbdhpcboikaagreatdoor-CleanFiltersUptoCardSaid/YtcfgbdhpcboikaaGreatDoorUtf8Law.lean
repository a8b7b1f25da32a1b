/-
Two ways to read UTF-8: by the first byte's class (utf8.look) and by what some character's bytes begin with (the document's Piece). No program in sight.
-/
import Derived.Test.YtcfgbdhpcboikaaGreatDoorAa
namespace Go.Proofs.YtcfgbdhpcboikaaGreatDoor.PU8
def contU:Nat->Nat->Nat->Nat->List Nat->Nat × Bool
 | 0,_,_,n,_=>(n,true)
 | _+1,_,_,n,[]=>(n,false)
 | need+1,lo,hi,n,c :: r=>if c<lo\/hi<c then (n,false)else contU need 0x80 0xbf (n+1) r
def lookU:List Nat->Nat × Bool
 | []=>(0,false)
 | c :: r =>
  if c<0x80 then (1,true)else if c<0xc2 then (0,false)else if c<0xe0 then contU 1 0x80 0xbf 1 r
  else if c=0xe0 then contU 2 0xa0 0xbf 1 r else if c=0xed then contU 2 0x80 0x9f 1 r else if c<0xf0 then contU 2 0x80 0xbf 1 r
  else if c=0xf0 then contU 3 0x90 0xbf 1 r else if c<0xf4 then contU 3 0x80 0xbf 1 r else if c=0xf4 then contU 3 0x80 0x8f 1 r else (0,false)
theorem look_cons (c:Nat)(r:List Nat):lookU (c :: r)=if c<0x80 then (1,true)else if c<0xc2 then (0,false)else if c<0xe0 then contU 1 0x80 0xbf 1 r
  else if c=0xe0 then contU 2 0xa0 0xbf 1 r else if c=0xed then contU 2 0x80 0x9f 1 r else if c<0xf0 then contU 2 0x80 0xbf 1 r
  else if c=0xf0 then contU 3 0x90 0xbf 1 r else if c<0xf4 then contU 3 0x80 0xbf 1 r else if c=0xf4 then contU 3 0x80 0x8f 1 r else (0,false):=rfl
def size (c:Nat):Nat × Nat :=
 if c<0x80 then (1,c)else if 0xc0<=c/\c<0xe0 then (2,c-0xc0)else if 0xe0<=c/\c<0xf0 then (3,c-0xe0)else if 0xf0<=c/\c<0xf8 then (4,c-0xf0)else (0,0)
def least (n:Nat):Nat:=if n=2 then 0x80 else if n=3 then 0x800 else if n=4 then 0x10000 else 0
def follow:Nat->Nat->List Nat->Option Nat
 | 0,v,_=>some v
 | _+1,_,[]=>none
 | k+1,v,c :: r=>if c<0x80\/0xbf<c then none else follow k (v*64+c-0x80) r
def widen:Nat->Nat->Nat->Nat × Nat
 | 0,lo,hi=>(lo,hi)
 | k+1,lo,hi=>widen k (lo*64) (hi*64+63)
def begins (b:List Nat)(k:Nat):Bool × Nat × Nat :=
 match b with
 | []=>(false,0,0)
 | c :: r =>
  if (size c).1=0\/(size c).1<k\/b.length<k then (false,0,0)
  else match follow (k-1) (size c).2 r with
   | none=>(false,0,0)
   | some v =>
    let lh:=widen ((size c).1-k) v v
    let low:=max lh.1 (least (size c).1)
    let high:=min lh.2 0x10ffff
    (decide (low<=high)&&!(decide (0xd800<=low)&&decide (high<=0xdfff)),(size c).1,v)
def pieceFrom (b:List Nat):Nat->Nat->Nat->Nat × Nat × Bool
 | 0,_,most=>(most,0xfffd,false)
 | f+1,k,most =>
  if (begins b k).1=true/\(begins b k).2.1=k then (k,(begins b k).2.2,true)
  else pieceFrom b f (k+1) (if (begins b k).1=true then k else most)
def pieceU (b:List Nat):Nat × Nat × Bool:=pieceFrom b 4 1 1
def encN (v:Nat):List Nat :=
 if v<0x80 then [v]else if v<0x800 then [0xc0+v / 64,0x80+v%64]else if v<0x10000 then [0xe0+v / 4096,0x80+v / 64%64,0x80+v%64]
 else [0xf0+v / 262144,0x80+v / 4096%64,0x80+v / 64%64,0x80+v%64]
theorem enc_two (v:Nat)(h:0x80<=v)(a:v<0x800):encN v=[0xc0+v / 64,0x80+v%64]:=by
 unfold encN;rw[ae (by omega),af a]
theorem enc_three (v:Nat)(h:0x800<=v)(a:v<0x10000):encN v=[0xe0+v / 4096,0x80+v / 64%64,0x80+v%64]:=by
 unfold encN;rw[ae (by omega),ae (by omega),af a]
theorem enc_four (v:Nat)(h:0x10000<=v):encN v=[0xf0+v / 262144,0x80+v / 4096%64,0x80+v / 64%64,0x80+v%64]:=by
 unfold encN;rw[ae (by omega),ae (by omega),ae (by omega)]
structure Same (b:List Nat):Prop where
 ok:(pieceU b).2.2=(lookU b).2
 num:(pieceU b).1=max (lookU b).1 1
 bad:(lookU b).2=false->(pieceU b).2.1=0xfffd
 val:(lookU b).2=true->encN (pieceU b).2.1=b.take (pieceU b).1/\((pieceU b).2.1<0xd800\/0xdfff<(pieceU b).2.1)/\(pieceU b).2.1<=0x10ffff
theorem same_one (c:Nat)(r:List Nat)(h:c<0x80):Same (c :: r):=by
 have e:size c=(1,c):=by{unfold size;rw[af h]};have d:begins (c :: r) 1=(true,1,c):=by{unfold begins;simp only[e];rw[ae (by simp)];simp[follow,widen,least];omega};have b:pieceU (c :: r)=(1,c,true):=by{unfold pieceU pieceFrom;rw[d];simp};have a:lookU (c :: r)=(1,true):=by{rw[look_cons,af h]};constructor;{rw[b,a]};{rw[b,a];rfl};{intro h;rw[a]at h;cases h};{intro _;rw[b];refine⟨?_,by simp;omega,by simp;omega⟩;simp[encN,h]}
theorem same_none (c:Nat)(r:List Nat)(h:(0x80<=c/\c<0xc0)\/0xf8<=c):Same (c :: r):=by
 have e:size c=(0,0):=by{unfold size;rw[ae (by omega),ae (by omega),ae (by omega),ae (by omega)]};have d:∀k,begins (c :: r) k=(false,0,0):=fun k=>by{unfold begins;simp[e]};have b:pieceU (c :: r)=(1,0xfffd,false):=by{unfold pieceU;simp[pieceFrom,d]};have a:lookU (c :: r)=(0,false):=by{rw[look_cons,ae (by omega)];rcases h with h|h;{rw[af (by omega)]};{rw[ae (by omega),ae (by omega),ae (by omega),ae (by omega),ae (by omega),ae (by omega),ae (by omega),ae (by omega)]}};constructor;{rw[b,a]};{rw[b,a];rfl};{intro _;rw[b]};{intro h;rw[a]at h;cases h}
theorem begins_len (c:Nat)(r:List Nat)(k:Nat)(h:(size c).1<k\/r.length+1<k):begins (c :: r) k=(false,0,0):=by
 show(if (size c).1=0\/(size c).1<k\/(c :: r).length<k then (false,0,0)else _)=_;rw[af];rcases h with h|h;{exact .inr (.inl h)};{exact .inr (.inr h)}
theorem begins_at (c:Nat)(r:List Nat)(k n b:Nat)(a:size c=(n,b))(f:n≠0)(d:k<=n)(e:k<=r.length+1) :
  begins (c :: r) k=match follow (k-1) b r with
   | none=>(false,0,0)
   | some v=>(decide (max (widen (n-k) v v).1 (least n)<=min (widen (n-k) v v).2 0x10ffff)&&!(decide (0xd800<=max (widen (n-k) v v).1 (least n))&&decide (min (widen (n-k) v v).2 0x10ffff<=0xdfff)),n,v):=by
 show(if (size c).1=0\/(size c).1<k\/(c :: r).length<k then (false,0,0)else _)=_;rw[ae (by rw[a];simp;omega),a]
theorem begins_none (c:Nat)(r:List Nat)(k n a:Nat)(g:size c=(n,a))(f:n≠0)(d:k<=n)(e:k<=r.length+1)(b:follow (k-1) a r=none):begins (c :: r) k=(false,0,0):=by
 rw[begins_at c r k n a g f d e,b]
theorem begins_yes (c:Nat)(r:List Nat)(k n a v lo hi:Nat)(j:size c=(n,a))(i:n≠0)(f:k<=n)(g:k<=r.length+1)(e:follow (k-1) a r=some v)(l:widen (n-k) v v=(lo,hi))
  (b:max lo (least n)<=min hi 0x10ffff) (d:max lo (least n)<0xd800\/0xdfff<min hi 0x10ffff):begins (c :: r) k=(true,n,v):=by
 rw[begins_at c r k n a j i f g,e];simp only[l];rw[bt b];congr 1;rcases d with h|h;{rw[bo (by omega)];rfl};{rw[jn,Bool.not_eq_true',i6];right;exact bo (by omega)}
theorem begins_out (c:Nat)(r:List Nat)(k n a v lo hi:Nat)(i:size c=(n,a))(g:n≠0)(e:k<=n)(f:k<=r.length+1)(d:follow (k-1) a r=some v)(j:widen (n-k) v v=(lo,hi))
  (h:min hi 0x10ffff<max lo (least n)\/(0xd800<=max lo (least n)/\min hi 0x10ffff<=0xdfff)):(begins (c :: r) k).1=false:=by
 rw[begins_at c r k n a i g e f,d];simp only[j];rcases h with h|⟨h,b⟩;{rw[bo (by omega)];rfl};{rw[bt h,bt b];simp}
theorem piece_bad (b:List Nat)(most:Nat)(h:∀k,1<=k->k<=4->¬((begins b k).1=true/\(begins b k).2.1=k))(a:(if (begins b 4).1=true then 4 else if (begins b 3).1=true then 3 else if (begins b 2).1=true then 2 else 1)=most):pieceU b=(most,0xfffd,false):=by
 unfold pieceU;simp only[pieceFrom];rw[ae (h 1 (by omega) (by omega)),ae (h 2 (by omega) (by omega)),ae (h 3 (by omega) (by omega)),ae (h 4 (by omega) (by omega))];rw[<-a];split<;>(try rfl);split<;>(try rfl);split<;>(try rfl);split<;>rfl
theorem piece_two (b:List Nat)(v:Nat)(a:¬((begins b 1).1=true/\(begins b 1).2.1=1))(h:begins b 2=(true,2,v)):pieceU b=(2,v,true):=by
 unfold pieceU;simp only[pieceFrom];rw[ae a,h];simp
theorem same_two (c:Nat)(r:List Nat)(t:0xc0<=c)(o:c<0xe0):Same (c :: r):=by
 have b:size c=(2,c-0xc0):=by{unfold size;rw[ae (by omega),af ⟨t,o⟩]};have i:least 2=0x80:=rfl;have l:begins (c :: r) 3=(false,0,0):=begins_len c r 3 (by rw[b];left;show 2<3;decide);have m:begins (c :: r) 4=(false,0,0):=begins_len c r 4 (by rw[b];left;show 2<4;decide);by_cases p:c<0xc2
 ·have j:(begins (c :: r) 1).1=false:=begins_out c r 1 2 _ (c-0xc0) ((c-0xc0)*64) ((c-0xc0)*64+63) b (by decide) (by decide) (by omega) rfl rfl (by rw[i];left;omega);have d:(begins (c :: r) 2).1=false:=by{cases r with|nil=>{rw[begins_len c [] 2 (by right;simp)]}|cons x r=>{by_cases hx:x<0x80\/0xbf<x;{rw[begins_none c (x :: r) 2 2 _ b (by decide) (by decide) (by simp) (by simp[follow,hx])]};{exact begins_out c (x :: r) 2 2 _ ((c-0xc0)*64+x-0x80) ((c-0xc0)*64+x-0x80) ((c-0xc0)*64+x-0x80) b (by decide) (by decide) (by simp) (by simp[follow,hx]) rfl (by rw[i];left;omega)}}}
  have a:pieceU (c :: r)=(1,0xfffd,false):=piece_bad _ 1 (by
   intro k k1 k4 ⟨g,_⟩;have:k=1\/k=2\/k=3\/k=4:=by omega
   rcases this with rfl|rfl|rfl|rfl
   ·rw[j]at g;cases g
   ·rw[d]at g;cases g
   ·rw[l]at g;cases g
   ·rw[m]at g;cases g) (by rw[m,l,d];simp)
  have e:lookU (c :: r)=(0,false):=by{rw[look_cons,ae (by omega),af p]};exact⟨by rw[a,e],by rw[a,e];rfl,fun _=>by rw[a],fun h=>by rw[e]at h;cases h⟩
 ·have j:begins (c :: r) 1=(true,2,c-0xc0):=begins_yes c r 1 2 _ (c-0xc0) ((c-0xc0)*64) ((c-0xc0)*64+63) b (by decide) (by decide) (by omega) rfl rfl (by rw[i];omega) (by rw[i];left;omega);have e:lookU (c :: r)=contU 1 0x80 0xbf 1 r:=by rw[look_cons,ae (by omega),ae p,af o]
  have bad:(begins (c :: r) 2).1=false->lookU (c :: r)=(1,false)->Same (c :: r):=fun d f=>by
   have a:pieceU (c :: r)=(1,0xfffd,false):=piece_bad _ 1 (by
    intro k k1 k4 ⟨g,n⟩;have:k=1\/k=2\/k=3\/k=4:=by omega
    rcases this with rfl|rfl|rfl|rfl
    ·rw[j]at n;cases n
    ·rw[d]at g;cases g
    ·rw[l]at g;cases g
    ·rw[m]at g;cases g) (by rw[m,l,d];simp)
   exact⟨by rw[a,f],by rw[a,f];rfl,fun _=>by rw[a],fun h=>by rw[f]at h;cases h⟩
  cases r with|nil=>{exact bad (by rw[begins_len c [] 2 (by right;simp)]) e}|cons x r=>{by_cases hx:x<0x80\/0xbf<x;{exact bad (by rw[begins_none c (x :: r) 2 2 _ b (by decide) (by decide) (by simp) (by simp[follow,hx])]) (by rw[e];simp[contU,hx])};{have d:begins (c :: x :: r) 2=(true,2,(c-0xc0)*64+x-0x80):=begins_yes c (x :: r) 2 2 _ ((c-0xc0)*64+x-0x80) ((c-0xc0)*64+x-0x80) ((c-0xc0)*64+x-0x80) b (by decide) (by decide) (by simp) (by simp[follow,hx]) rfl (by rw[i];omega) (by rw[i];left;omega);have a:=piece_two _ _ (by rw[j];simp) d;have f:lookU (c :: x :: r)=(2,true):=by{rw[e];simp[contU,hx]};refine⟨by rw[a,f],by rw[a,f];rfl,(fun h=>by rw[f]at h;cases h),fun _=>?_⟩;rw[a];refine⟨?_,by simp;omega,by simp;omega⟩;show encN ((c-0xc0)*64+x-0x80)=[c,x];rw[enc_two _ (by omega) (by omega)];have q:0xc0+((c-0xc0)*64+x-0x80) / 64=c:=by{omega};have s:0x80+((c-0xc0)*64+x-0x80)%64=x:=by{omega};rw[q,s]}}
theorem piece_three (b:List Nat)(v:Nat)(a:¬((begins b 1).1=true/\(begins b 1).2.1=1))(c:¬((begins b 2).1=true/\(begins b 2).2.1=2))(h:begins b 3=(true,3,v)):pieceU b=(3,v,true):=by
 unfold pieceU;simp only[pieceFrom];rw[ae a,ae c,h];simp
theorem piece_four (b:List Nat)(v:Nat)(a:¬((begins b 1).1=true/\(begins b 1).2.1=1))(c:¬((begins b 2).1=true/\(begins b 2).2.1=2))(d:¬((begins b 3).1=true/\(begins b 3).2.1=3))(h:begins b 4=(true,4,v)):pieceU b=(4,v,true):=by
 unfold pieceU;simp only[pieceFrom];rw[ae a,ae c,ae d,h];simp
theorem same_bad (b:List Nat)(k:Nat)(c:lookU b=(k,false))(n:k<4)(m:∀j,1<=j->j<=4->(begins b j).1=true->(begins b j).2.1≠j)
  (e:2<=k->(begins b k).1=true) (a:∀j,2<=j->j<=4->k<j->(begins b j).1=false):Same b:=by
 have d:pieceU b=(max k 1,0xfffd,false):=piece_bad b _ (fun j i l ⟨g,f⟩=>m j i l g f) (by
  rw[a 4 (by omega) (by omega) (by omega)];rw[ae (by decide)];have:k=0\/k=1\/k=2\/k=3:=by omega
  rcases this with rfl|rfl|rfl|rfl
  ·rw[a 3 (by omega) (by omega) (by omega),a 2 (by omega) (by omega) (by omega)];rfl
  ·rw[a 3 (by omega) (by omega) (by omega),a 2 (by omega) (by omega) (by omega)];rfl
  ·rw[a 3 (by omega) (by omega) (by omega),e (by omega)];rfl
  ·rw[e (by omega)];rfl)
 exact⟨by rw[d,c],by rw[d,c],fun _=>by rw[d],fun h=>by rw[c]at h;cases h⟩
theorem begins_num (c:Nat)(r:List Nat)(k n a:Nat)(b:size c=(n,a)):(begins (c :: r) k).1=true->(begins (c :: r) k).2.1=n:=by
 show(if (size c).1=0\/(size c).1<k\/(c :: r).length<k then (false,0,0)else _:Bool × Nat × Nat).1=true->(if (size c).1=0\/(size c).1<k\/(c :: r).length<k then (false,0,0)else _:Bool × Nat × Nat).2.1=n;split;{intro h;cases h};{rw[b];cases follow (k-1) a r with|none=>{intro h;cases h}|some v=>{intro _;rfl}}
def lo3 (c:Nat):Nat:=if c=0xe0 then 0xa0 else 0x80
def hi3 (c:Nat):Nat:=if c=0xed then 0x9f else 0xbf
theorem same_three (c:Nat)(r:List Nat)(z:0xe0<=c)(s:c<0xf0):Same (c :: r):=by
 have a:size c=(3,c-0xe0):=by{unfold size;rw[ae (by omega),ae (by omega),af ⟨z,s⟩]};have d:least 3=0x800:=rfl;have v:begins (c :: r) 4=(false,0,0):=begins_len c r 4 (by rw[a];left;show 3<4;decide);have E:lo3 c=0xa0/\c=0xe0\/lo3 c=0x80/\c≠0xe0:=by{unfold lo3;split<;>simp_all};have C:hi3 c=0x9f/\c=0xed\/hi3 c=0xbf/\c≠0xed:=by{unfold hi3;split<;>simp_all};have f:lookU (c :: r)=contU 2 (lo3 c) (hi3 c) 1 r:=by{rw[look_cons,ae (by omega),ae (by omega),ae (by omega)];unfold lo3 hi3;by_cases e:c=0xe0;{rw[af e,af e,ae (by omega)]};{rw[ae e,ae e];by_cases m:c=0xed;{rw[af m,af m]};{rw[ae m,ae m,af s]}}};have o:∀j,j≠3->(begins (c :: r) j).1=true->(begins (c :: r) j).2.1≠j:=fun j n h=>by{rw[begins_num c r j 3 _ a h];exact fun e=>n e.symm}
 have bad:∀k,k<3->lookU (c :: r)=(k,false)->(2<=k->(begins (c :: r) k).1=true)->(∀j,2<=j->j<=3->k<j->(begins (c :: r) j).1=false)->Same (c :: r):=fun k D l b t =>
  same_bad _ k l (by omega) (fun j j1 j4 g=>by
   by_cases e:j=3
   ·subst e;rw[t 3 (by omega) (by omega) (by omega)]at g;cases g
   ·exact o j e g) b (fun j j2 j4 B=>by
   by_cases e:j=4
   ·subst e;rw[v]
   ·exact t j j2 (by omega) B)
 cases r with|nil=>{exact bad 1 (by omega) f (fun h=>by omega) (fun j j2 j3 _=>by rw[begins_len c [] j (by right;simp;omega)])}|cons x r=>{by_cases hx:x<lo3 c\/hi3 c<x;{refine bad 1 (by omega) (by rw[f];simp[contU,hx]) (fun h=>by omega) (fun j j2 j3 _=>?_);by_cases hx':x<0x80\/0xbf<x;{by_cases e:j<=(x :: r).length+1;{have A:follow (j-1) (c-0xe0) (x :: r)=none:=by{obtain⟨i,rfl⟩:∃i,j=i+2:=⟨j-2,by omega⟩;simp[follow,hx']};rw[begins_none c (x :: r) j 3 _ a (by decide) j3 e A]};{rw[begins_len c (x :: r) j (by right;omega)]}};{have n:j=2\/j=3:=by{omega};rcases n with rfl|rfl;{exact begins_out c (x :: r) 2 3 _ ((c-0xe0)*64+x-0x80) (((c-0xe0)*64+x-0x80)*64) (((c-0xe0)*64+x-0x80)*64+63) a (by decide) (by decide) (by simp) (by simp[follow,hx']) rfl (by rw[d];omega)};{cases r with|nil=>{rw[begins_len c [x] 3 (by right;simp)]}|cons y r=>{by_cases b:y<0x80\/0xbf<y;{rw[begins_none c (x :: y :: r) 3 3 _ a (by decide) (by decide) (by simp) (by simp[follow,hx',b])]};{exact begins_out c (x :: y :: r) 3 3 _ (((c-0xe0)*64+x-0x80)*64+y-0x80) (((c-0xe0)*64+x-0x80)*64+y-0x80) (((c-0xe0)*64+x-0x80)*64+y-0x80) a (by decide) (by decide) (by simp) (by simp[follow,hx',b]) rfl (by rw[d];omega)}}}}};{have hx':¬(x<0x80\/0xbf<x):=by{omega};have q:(begins (c :: x :: r) 2).1=true:=by{rw[begins_yes c (x :: r) 2 3 _ ((c-0xe0)*64+x-0x80) (((c-0xe0)*64+x-0x80)*64) (((c-0xe0)*64+x-0x80)*64+63) a (by decide) (by decide) (by simp) (by simp[follow,hx']) rfl (by rw[d];omega) (by rw[d];omega)]};cases r with|nil=>{exact bad 2 (by omega) (by rw[f];simp[contU,hx]) (fun _=>q) (fun j j2 j3 h=>by rw[begins_len c [x] j (by right;simp;omega)])}|cons y r=>{by_cases b:y<0x80\/0xbf<y;{refine bad 2 (by omega) (by rw[f];simp[contU,hx,b]) (fun _=>q) (fun j j2 j3 h=>?_);obtain rfl:j=3:=by{omega};rw[begins_none c (x :: y :: r) 3 3 _ a (by decide) (by decide) (by simp) (by simp[follow,hx',b])]};{have u:begins (c :: x :: y :: r) 3=(true,3,((c-0xe0)*64+x-0x80)*64+y-0x80):=begins_yes c (x :: y :: r) 3 3 _ (((c-0xe0)*64+x-0x80)*64+y-0x80) (((c-0xe0)*64+x-0x80)*64+y-0x80) (((c-0xe0)*64+x-0x80)*64+y-0x80) a (by decide) (by decide) (by simp) (by simp[follow,hx',b]) rfl (by rw[d];omega) (by rw[d];omega);have p:=piece_three _ _ (fun h=>o 1 (by decide) h.1 h.2) (fun h=>o 2 (by decide) h.1 h.2) u;have l:lookU (c :: x :: y :: r)=(3,true):=by{rw[f];simp[contU,hx,b]};refine⟨by rw[p,l],by rw[p,l];rfl,(fun h=>by rw[l]at h;cases h),fun _=>?_⟩;rw[p];refine⟨?_,by simp;omega,by simp;omega⟩;show encN (((c-0xe0)*64+x-0x80)*64+y-0x80)=[c,x,y];rw[enc_three _ (by omega) (by omega)];have w:0xe0+(((c-0xe0)*64+x-0x80)*64+y-0x80) / 4096=c:=by{omega};have e2:0x80+(((c-0xe0)*64+x-0x80)*64+y-0x80) / 64%64=x:=by{omega};have e3:0x80+(((c-0xe0)*64+x-0x80)*64+y-0x80)%64=y:=by{omega};rw[w,e2,e3]}}}}
def lo4 (c:Nat):Nat:=if c=0xf0 then 0x90 else 0x80
def hi4 (c:Nat):Nat:=if c=0xf4 then 0x8f else 0xbf
theorem same_four_out (c:Nat)(r:List Nat)(n:0xf5<=c)(k:c<0xf8):Same (c :: r):=by
 have a:size c=(4,c-0xf0):=by{unfold size;rw[ae (by omega),ae (by omega),ae (by omega),af ⟨by omega,k⟩]};have d:least 4=0x10000:=rfl;have m:lookU (c :: r)=(0,false):=by{rw[look_cons,ae (by omega),ae (by omega),ae (by omega),ae (by omega),ae (by omega),ae (by omega),ae (by omega),ae (by omega),ae (by omega)]}
 have f:∀j,1<=j->j<=4->(begins (c :: r) j).1=false:=fun j j1 j4=>by
  by_cases e:j<=r.length+1
  ·have l:j=1\/j=2\/j=3\/j=4:=by{omega};rcases l with rfl|rfl|rfl|rfl;{exact begins_out c r 1 4 _ (c-0xf0) ((c-0xf0)*64*64*64) ((((c-0xf0)*64+63)*64+63)*64+63) a (by decide) (by decide) (by omega) rfl rfl (by rw[d];omega)};{cases r with|nil=>simp at e|cons x r=>{by_cases hx:x<0x80\/0xbf<x;{rw[begins_none c (x :: r) 2 4 _ a (by decide) (by decide) (by simp) (by simp[follow,hx])]};{exact begins_out c (x :: r) 2 4 _ ((c-0xf0)*64+x-0x80) (((c-0xf0)*64+x-0x80)*64*64) ((((c-0xf0)*64+x-0x80)*64+63)*64+63) a (by decide) (by decide) (by simp) (by simp[follow,hx]) rfl (by rw[d];omega)}}}
   ·match r,e with
    | [],e=>simp at e
    | [x],e=>simp at e
    | x :: y :: r,_ =>
     by_cases hx:x<0x80\/0xbf<x
     ·rw[begins_none c (x :: y :: r) 3 4 _ a (by decide) (by decide) (by simp) (by simp[follow,hx])]
     by_cases b:y<0x80\/0xbf<y
     ·rw[begins_none c (x :: y :: r) 3 4 _ a (by decide) (by decide) (by simp) (by simp[follow,hx,b])]
     ·exact begins_out c (x :: y :: r) 3 4 _ (((c-0xf0)*64+x-0x80)*64+y-0x80) ((((c-0xf0)*64+x-0x80)*64+y-0x80)*64) ((((c-0xf0)*64+x-0x80)*64+y-0x80)*64+63) a (by decide) (by decide) (by simp) (by simp[follow,hx,b]) rfl (by rw[d];omega)
   ·match r,e with
    | [],e=>simp at e
    | [x],e=>simp at e
    | [x,y],e=>simp at e
    | x :: y :: z :: r,_ =>
     by_cases hx:x<0x80\/0xbf<x
     ·rw[begins_none c (x :: y :: z :: r) 4 4 _ a (by decide) (by decide) (by simp) (by simp[follow,hx])]
     by_cases b:y<0x80\/0xbf<y
     ·rw[begins_none c (x :: y :: z :: r) 4 4 _ a (by decide) (by decide) (by simp) (by simp[follow,hx,b])]
     by_cases i:z<0x80\/0xbf<z
     ·rw[begins_none c (x :: y :: z :: r) 4 4 _ a (by decide) (by decide) (by simp) (by simp[follow,hx,b,i])]
     ·exact begins_out c (x :: y :: z :: r) 4 4 _ ((((c-0xf0)*64+x-0x80)*64+y-0x80)*64+z-0x80) ((((c-0xf0)*64+x-0x80)*64+y-0x80)*64+z-0x80) ((((c-0xf0)*64+x-0x80)*64+y-0x80)*64+z-0x80) a (by decide) (by decide) (by simp) (by simp[follow,hx,b,i]) rfl (by rw[d];omega)
  {rw[begins_len c r j (by right;omega)]}
 exact same_bad _ 0 m (by omega) (fun j j1 j4 g=>by rw[f j j1 j4]at g;cases g) (fun h=>by omega) (fun j j2 j4 _=>f j (by omega) j4)
theorem same_four (c:Nat)(r:List Nat)(C:0xf0<=c)(D:c<0xf5):Same (c :: r):=by
 have b:size c=(4,c-0xf0):=by{unfold size;rw[ae (by omega),ae (by omega),ae (by omega),af ⟨by omega,by omega⟩]};have l:least 4=0x10000:=rfl;have J:lo4 c=0x90/\c=0xf0\/lo4 c=0x80/\c≠0xf0:=by{unfold lo4;split<;>simp_all};have E:hi4 c=0x8f/\c=0xf4\/hi4 c=0xbf/\c≠0xf4:=by{unfold hi4;split<;>simp_all};have m:lookU (c :: r)=contU 3 (lo4 c) (hi4 c) 1 r:=by{rw[look_cons,ae (by omega),ae (by omega),ae (by omega),ae (by omega),ae (by omega),ae (by omega)];unfold lo4 hi4;by_cases e:c=0xf0;{rw[af e,af e,ae (by omega)]};{rw[ae e,ae e];by_cases p:c=0xf4;{rw[ae (by omega),af p,af p]};{rw[af (by omega),ae p]}}};have o:∀j,j≠4->(begins (c :: r) j).1=true->(begins (c :: r) j).2.1≠j:=fun j s h=>by{rw[begins_num c r j 4 _ b h];exact fun e=>s e.symm}
 have bad:∀k,k<4->lookU (c :: r)=(k,false)->(2<=k->(begins (c :: r) k).1=true)->(∀j,2<=j->j<=4->k<j->(begins (c :: r) j).1=false)->Same (c :: r):=fun k F n a f =>
  same_bad _ k n (by omega) (fun j j1 j4 g=>by
   by_cases e:j=4
   ·subst e;rw[f 4 (by omega) (by omega) (by omega)]at g;cases g
   ·exact o j e g) a f
 cases r with
 | nil=>exact bad 1 (by omega) m (fun h=>by omega) (fun j j2 j3 _=>by rw[begins_len c [] j (by right;simp;omega)])
 | cons x r =>
  by_cases hx:x<lo4 c\/hi4 c<x
  ·refine bad 1 (by omega) (by rw[m];simp[contU,hx]) (fun h=>by omega) (fun j j2 j3 _=>?_);by_cases d:x<0x80\/0xbf<x
   ·by_cases e:j<=(x :: r).length+1
    ·have q:follow (j-1) (c-0xf0) (x :: r)=none:=by
      obtain⟨i,rfl⟩:∃i,j=i+2:=⟨j-2,by omega⟩
      simp[follow,d]
     rw[begins_none c (x :: r) j 4 _ b (by decide) j3 e q]
    ·rw[begins_len c (x :: r) j (by right;omega)]
   ·have s:j=2\/j=3\/j=4:=by omega
    rcases s with rfl|rfl|rfl
    ·exact begins_out c (x :: r) 2 4 _ ((c-0xf0)*64+x-0x80) (((c-0xf0)*64+x-0x80)*64*64) ((((c-0xf0)*64+x-0x80)*64+63)*64+63) b (by decide) (by decide) (by simp) (by simp[follow,d]) rfl (by rw[l];omega)
    ·cases r with
     | nil=>rw[begins_len c [x] 3 (by right;simp)]
     | cons y r =>
      by_cases a:y<0x80\/0xbf<y
      ·rw[begins_none c (x :: y :: r) 3 4 _ b (by decide) (by decide) (by simp) (by simp[follow,d,a])]
      ·exact begins_out c (x :: y :: r) 3 4 _ (((c-0xf0)*64+x-0x80)*64+y-0x80) ((((c-0xf0)*64+x-0x80)*64+y-0x80)*64) ((((c-0xf0)*64+x-0x80)*64+y-0x80)*64+63) b (by decide) (by decide) (by simp) (by simp[follow,d,a]) rfl (by rw[l];omega)
    ·match r with
     | []=>rw[begins_len c [x] 4 (by right;simp)]
     | [y]=>rw[begins_len c [x,y] 4 (by right;simp)]
     | y :: z :: r =>
      by_cases a:y<0x80\/0xbf<y
      ·rw[begins_none c (x :: y :: z :: r) 4 4 _ b (by decide) (by decide) (by simp) (by simp[follow,d,a])]
      by_cases f:z<0x80\/0xbf<z
      ·rw[begins_none c (x :: y :: z :: r) 4 4 _ b (by decide) (by decide) (by simp) (by simp[follow,d,a,f])]
      ·exact begins_out c (x :: y :: z :: r) 4 4 _ ((((c-0xf0)*64+x-0x80)*64+y-0x80)*64+z-0x80) ((((c-0xf0)*64+x-0x80)*64+y-0x80)*64+z-0x80) ((((c-0xf0)*64+x-0x80)*64+y-0x80)*64+z-0x80) b (by decide) (by decide) (by simp) (by simp[follow,d,a,f]) rfl (by rw[l];omega)
  ·have d:¬(x<0x80\/0xbf<x):=by omega
   have u:(begins (c :: x :: r) 2).1=true:=by
    rw[begins_yes c (x :: r) 2 4 _ ((c-0xf0)*64+x-0x80) (((c-0xf0)*64+x-0x80)*64*64) ((((c-0xf0)*64+x-0x80)*64+63)*64+63) b (by decide) (by decide) (by simp) (by simp[follow,d]) rfl (by rw[l];omega) (by rw[l];omega)]
   cases r with
   | nil=>exact bad 2 (by omega) (by rw[m];simp[contU,hx]) (fun _=>u) (fun j j2 j3 h=>by rw[begins_len c [x] j (by right;simp;omega)])
   | cons y r =>
    by_cases a:y<0x80\/0xbf<y
    ·refine bad 2 (by omega) (by rw[m];simp[contU,hx,a]) (fun _=>u) (fun j j2 j3 h=>?_);by_cases e:j<=(x :: y :: r).length+1
     ·have q:follow (j-1) (c-0xf0) (x :: y :: r)=none:=by
       obtain⟨i,rfl⟩:∃i,j=i+3:=⟨j-3,by omega⟩
       simp[follow,d,a]
      rw[begins_none c (x :: y :: r) j 4 _ b (by decide) j3 e q]
     ·rw[begins_len c (x :: y :: r) j (by right;omega)]
    ·have v:(begins (c :: x :: y :: r) 3).1=true:=by
      rw[begins_yes c (x :: y :: r) 3 4 _ (((c-0xf0)*64+x-0x80)*64+y-0x80) ((((c-0xf0)*64+x-0x80)*64+y-0x80)*64) ((((c-0xf0)*64+x-0x80)*64+y-0x80)*64+63) b (by decide) (by decide) (by simp) (by simp[follow,d,a]) rfl (by rw[l];omega) (by rw[l];omega)]
     cases r with
     | nil=>exact bad 3 (by omega) (by rw[m];simp[contU,hx,a]) (fun _=>v) (fun j j2 j3 h=>by rw[begins_len c [x,y] j (by right;simp;omega)])
     | cons z r =>
      by_cases f:z<0x80\/0xbf<z
      ·refine bad 3 (by omega) (by rw[m];simp[contU,hx,a,f]) (fun _=>v) (fun j j2 j3 h=>?_);obtain rfl:j=4:=by omega
       rw[begins_none c (x :: y :: z :: r) 4 4 _ b (by decide) (by decide) (by simp) (by simp[follow,d,a,f])]
      ·have w:begins (c :: x :: y :: z :: r) 4=(true,4,((((c-0xf0)*64+x-0x80)*64+y-0x80)*64+z-0x80)):=begins_yes c (x :: y :: z :: r) 4 4 _ ((((c-0xf0)*64+x-0x80)*64+y-0x80)*64+z-0x80) ((((c-0xf0)*64+x-0x80)*64+y-0x80)*64+z-0x80) ((((c-0xf0)*64+x-0x80)*64+y-0x80)*64+z-0x80) b (by decide) (by decide) (by simp) (by simp[follow,d,a,f]) rfl (by rw[l];omega) (by rw[l];omega);have t:=piece_four _ _ (fun h=>o 1 (by decide) h.1 h.2) (fun h=>o 2 (by decide) h.1 h.2) (fun h=>o 3 (by decide) h.1 h.2) w;have n:lookU (c :: x :: y :: z :: r)=(4,true):=by rw[m];simp[contU,hx,a,f]
       refine⟨by rw[t,n],by rw[t,n];rfl,(fun h=>by rw[n]at h;cases h),fun _=>?_⟩;rw[t];refine⟨?_,by simp;omega,by simp;omega⟩;show encN ((((c-0xf0)*64+x-0x80)*64+y-0x80)*64+z-0x80)=[c,x,y,z]
       rw[enc_four _ (by omega)];have A:0xf0+((((c-0xf0)*64+x-0x80)*64+y-0x80)*64+z-0x80) / 262144=c:=by omega
       have B:0x80+((((c-0xf0)*64+x-0x80)*64+y-0x80)*64+z-0x80) / 4096%64=x:=by omega
       have e3:0x80+((((c-0xf0)*64+x-0x80)*64+y-0x80)*64+z-0x80) / 64%64=y:=by omega
       have e4:0x80+((((c-0xf0)*64+x-0x80)*64+y-0x80)*64+z-0x80)%64=z:=by omega
       rw[A,B,e3,e4]
theorem sameU (b:List Nat)(h:b≠[]):Same b:=by
 cases b with|nil=>exact absurd rfl h|cons c r=>{by_cases a:c<0x80;{exact same_one c r a};by_cases i:c<0xc0;{exact same_none c r (by omega)};by_cases d:c<0xe0;{exact same_two c r (by omega) d};by_cases e:c<0xf0;{exact same_three c r (by omega) e};by_cases f:c<0xf5;{exact same_four c r (by omega) f};by_cases g:c<0xf8;{exact same_four_out c r (by omega) g};{exact same_none c r (by omega)}}
end Go.Proofs.YtcfgbdhpcboikaaGreatDoor.PU8
