/-
Two ways to read UTF-8: by the first byte's class (utf8.look) and by what some character's bytes begin with (the document's Piece). No program in sight.
-/
namespace Go.Proofs.YtcfgbdhpcboikaaGreatDoor.PU8
def contU:Nat→Nat→Nat→Nat→List Nat→Nat × Bool
 | 0,_,_,n,_=>(n,true)
 | _+1,_,_,n,[]=>(n,false)
 | need+1,lo,hi,n,c :: r=>if c<lo∨hi<c then (n,false)else contU need 0x80 0xbf (n+1) r
def lookU:List Nat→Nat × Bool
 | []=>(0,false)
 | c :: r =>
  if c<0x80 then (1,true)else if c<0xc2 then (0,false)else if c<0xe0 then contU 1 0x80 0xbf 1 r
  else if c=0xe0 then contU 2 0xa0 0xbf 1 r else if c=0xed then contU 2 0x80 0x9f 1 r else if c<0xf0 then contU 2 0x80 0xbf 1 r
  else if c=0xf0 then contU 3 0x90 0xbf 1 r else if c<0xf4 then contU 3 0x80 0xbf 1 r else if c=0xf4 then contU 3 0x80 0x8f 1 r else (0,false)
theorem look_cons (c:Nat)(r:List Nat):lookU (c :: r)=if c<0x80 then (1,true)else if c<0xc2 then (0,false)else if c<0xe0 then contU 1 0x80 0xbf 1 r
  else if c=0xe0 then contU 2 0xa0 0xbf 1 r else if c=0xed then contU 2 0x80 0x9f 1 r else if c<0xf0 then contU 2 0x80 0xbf 1 r
  else if c=0xf0 then contU 3 0x90 0xbf 1 r else if c<0xf4 then contU 3 0x80 0xbf 1 r else if c=0xf4 then contU 3 0x80 0x8f 1 r else (0,false):=rfl
def size (c:Nat):Nat × Nat :=
 if c<0x80 then (1,c)else if 0xc0≤c∧c<0xe0 then (2,c-0xc0)else if 0xe0≤c∧c<0xf0 then (3,c-0xe0)else if 0xf0≤c∧c<0xf8 then (4,c-0xf0)else (0,0)
def least (n:Nat):Nat:=if n=2 then 0x80 else if n=3 then 0x800 else if n=4 then 0x10000 else 0
def follow:Nat→Nat→List Nat→Option Nat
 | 0,v,_=>some v
 | _+1,_,[]=>none
 | k+1,v,c :: r=>if c<0x80∨0xbf<c then none else follow k (v*64+c-0x80) r
def widen:Nat→Nat→Nat→Nat × Nat
 | 0,lo,hi=>(lo,hi)
 | k+1,lo,hi=>widen k (lo*64) (hi*64+63)
def begins (b:List Nat)(k:Nat):Bool × Nat × Nat :=
 match b with
 | []=>(false,0,0)
 | c :: r =>
  if (size c).1=0∨(size c).1<k∨b.length<k then (false,0,0)
  else match follow (k-1) (size c).2 r with
   | none=>(false,0,0)
   | some v =>
    let lh:=widen ((size c).1-k) v v
    let low:=max lh.1 (least (size c).1)
    let high:=min lh.2 0x10ffff
    (decide (low≤high)&&!(decide (0xd800≤low)&&decide (high≤0xdfff)),(size c).1,v)
def pieceFrom (b:List Nat):Nat→Nat→Nat→Nat × Nat × Bool
 | 0,_,most=>(most,0xfffd,false)
 | f+1,k,most =>
  if (begins b k).1=true∧(begins b k).2.1=k then (k,(begins b k).2.2,true)
  else pieceFrom b f (k+1) (if (begins b k).1=true then k else most)
def pieceU (b:List Nat):Nat × Nat × Bool:=pieceFrom b 4 1 1
def encN (v:Nat):List Nat :=
 if v<0x80 then [v]else if v<0x800 then [0xc0+v / 64,0x80+v%64]else if v<0x10000 then [0xe0+v / 4096,0x80+v / 64%64,0x80+v%64]
 else [0xf0+v / 262144,0x80+v / 4096%64,0x80+v / 64%64,0x80+v%64]
theorem enc_two (v:Nat)(h:0x80≤v)(h':v<0x800):encN v=[0xc0+v / 64,0x80+v%64]:=by
 unfold encN;rw[if_neg (by omega),if_pos h']
theorem enc_three (v:Nat)(h:0x800≤v)(h':v<0x10000):encN v=[0xe0+v / 4096,0x80+v / 64%64,0x80+v%64]:=by
 unfold encN;rw[if_neg (by omega),if_neg (by omega),if_pos h']
theorem enc_four (v:Nat)(h:0x10000≤v):encN v=[0xf0+v / 262144,0x80+v / 4096%64,0x80+v / 64%64,0x80+v%64]:=by
 unfold encN;rw[if_neg (by omega),if_neg (by omega),if_neg (by omega)]
structure Same (b:List Nat):Prop where
 ok:(pieceU b).2.2=(lookU b).2
 num:(pieceU b).1=max (lookU b).1 1
 bad:(lookU b).2=false→(pieceU b).2.1=0xfffd
 val:(lookU b).2=true→encN (pieceU b).2.1=b.take (pieceU b).1∧((pieceU b).2.1<0xd800∨0xdfff<(pieceU b).2.1)∧(pieceU b).2.1≤0x10ffff
theorem same_one (c:Nat)(r:List Nat)(h:c<0x80):Same (c :: r):=by
 have hs:size c=(1,c):=by unfold size;rw[if_pos h]
 have hb:begins (c :: r) 1=(true,1,c):=by
  unfold begins;simp only[hs];rw[if_neg (by simp)];simp[follow,widen,least];omega
 have hp:pieceU (c :: r)=(1,c,true):=by
  unfold pieceU pieceFrom;rw[hb];simp
 have hl:lookU (c :: r)=(1,true):=by rw[look_cons,if_pos h]
 constructor
 ·rw[hp,hl]
 ·rw[hp,hl];rfl
 ·intro h;rw[hl]at h;cases h
 ·intro _;rw[hp];refine⟨?_,by simp;omega,by simp;omega⟩;simp[encN,h]
theorem same_none (c:Nat)(r:List Nat)(h:(0x80≤c∧c<0xc0)∨0xf8≤c):Same (c :: r):=by
 have hs:size c=(0,0):=by
  unfold size;rw[if_neg (by omega),if_neg (by omega),if_neg (by omega),if_neg (by omega)]
 have hb:∀k,begins (c :: r) k=(false,0,0):=fun k=>by
  unfold begins;simp[hs]
 have hp:pieceU (c :: r)=(1,0xfffd,false):=by
  unfold pieceU;simp[pieceFrom,hb]
 have hl:lookU (c :: r)=(0,false):=by
  rw[look_cons,if_neg (by omega)];rcases h with h|h
  ·rw[if_pos (by omega)]
  ·rw[if_neg (by omega),if_neg (by omega),if_neg (by omega),if_neg (by omega),if_neg (by omega),if_neg (by omega),if_neg (by omega),if_neg (by omega)]
 constructor
 ·rw[hp,hl]
 ·rw[hp,hl];rfl
 ·intro _;rw[hp]
 ·intro h;rw[hl]at h;cases h
theorem begins_len (c:Nat)(r:List Nat)(k:Nat)(h:(size c).1<k∨r.length+1<k):begins (c :: r) k=(false,0,0):=by
 show(if (size c).1=0∨(size c).1<k∨(c :: r).length<k then (false,0,0)else _)=_;rw[if_pos];rcases h with h|h
 ·exact .inr (.inl h)
 ·exact .inr (.inr h)
theorem begins_at (c:Nat)(r:List Nat)(k n v0:Nat)(hs:size c=(n,v0))(hn:n≠0)(hk:k≤n)(hl:k≤r.length+1) :
  begins (c :: r) k=match follow (k-1) v0 r with
   | none=>(false,0,0)
   | some v=>(decide (max (widen (n-k) v v).1 (least n)≤min (widen (n-k) v v).2 0x10ffff)&&!(decide (0xd800≤max (widen (n-k) v v).1 (least n))&&decide (min (widen (n-k) v v).2 0x10ffff≤0xdfff)),n,v):=by
 show(if (size c).1=0∨(size c).1<k∨(c :: r).length<k then (false,0,0)else _)=_;rw[if_neg (by rw[hs];simp;omega),hs]
theorem begins_none (c:Nat)(r:List Nat)(k n v0:Nat)(hs:size c=(n,v0))(hn:n≠0)(hk:k≤n)(hl:k≤r.length+1)(hf:follow (k-1) v0 r=none):begins (c :: r) k=(false,0,0):=by
 rw[begins_at c r k n v0 hs hn hk hl,hf]
theorem begins_yes (c:Nat)(r:List Nat)(k n v0 v lo hi:Nat)(hs:size c=(n,v0))(hn:n≠0)(hk:k≤n)(hl:k≤r.length+1)(hf:follow (k-1) v0 r=some v)(hw:widen (n-k) v v=(lo,hi))
  (h1:max lo (least n)≤min hi 0x10ffff) (h2:max lo (least n)<0xd800∨0xdfff<min hi 0x10ffff):begins (c :: r) k=(true,n,v):=by
 rw[begins_at c r k n v0 hs hn hk hl,hf];simp only[hw];rw[decide_eq_true h1];congr 1;rcases h2 with h|h
 ·rw[decide_eq_false (by omega)];rfl
 ·rw[Bool.true_and,Bool.not_eq_true',Bool.and_eq_false_iff];right;exact decide_eq_false (by omega)
theorem begins_out (c:Nat)(r:List Nat)(k n v0 v lo hi:Nat)(hs:size c=(n,v0))(hn:n≠0)(hk:k≤n)(hl:k≤r.length+1)(hf:follow (k-1) v0 r=some v)(hw:widen (n-k) v v=(lo,hi))
  (h:min hi 0x10ffff<max lo (least n)∨(0xd800≤max lo (least n)∧min hi 0x10ffff≤0xdfff)):(begins (c :: r) k).1=false:=by
 rw[begins_at c r k n v0 hs hn hk hl,hf];simp only[hw];rcases h with h|⟨h,h'⟩
 ·rw[decide_eq_false (by omega)];rfl
 ·rw[decide_eq_true h,decide_eq_true h'];simp
theorem piece_bad (b:List Nat)(most:Nat)(h:∀k,1≤k→k≤4→¬((begins b k).1=true∧(begins b k).2.1=k))(hm:(if (begins b 4).1=true then 4 else if (begins b 3).1=true then 3 else if (begins b 2).1=true then 2 else 1)=most):pieceU b=(most,0xfffd,false):=by
 unfold pieceU;simp only[pieceFrom];rw[if_neg (h 1 (by omega) (by omega)),if_neg (h 2 (by omega) (by omega)),if_neg (h 3 (by omega) (by omega)),if_neg (h 4 (by omega) (by omega))];rw[←hm];split<;>(try rfl)
 split<;>(try rfl)
 split<;>(try rfl)
 split<;>rfl
theorem piece_two (b:List Nat)(v:Nat)(h1:¬((begins b 1).1=true∧(begins b 1).2.1=1))(h:begins b 2=(true,2,v)):pieceU b=(2,v,true):=by
 unfold pieceU;simp only[pieceFrom];rw[if_neg h1,h];simp
theorem same_two (c:Nat)(r:List Nat)(h1:0xc0≤c)(h2:c<0xe0):Same (c :: r):=by
 have hs:size c=(2,c-0xc0):=by
  unfold size;rw[if_neg (by omega),if_pos ⟨h1,h2⟩]
 have l2:least 2=0x80:=rfl;have b3:begins (c :: r) 3=(false,0,0):=begins_len c r 3 (by rw[hs];left;show 2<3;decide);have b4:begins (c :: r) 4=(false,0,0):=begins_len c r 4 (by rw[hs];left;show 2<4;decide);by_cases hc:c<0xc2
 ·have b1:(begins (c :: r) 1).1=false:=begins_out c r 1 2 _ (c-0xc0) ((c-0xc0)*64) ((c-0xc0)*64+63) hs (by decide) (by decide) (by omega) rfl rfl (by rw[l2];left;omega);have b2:(begins (c :: r) 2).1=false:=by
   cases r with
   | nil=>rw[begins_len c [] 2 (by right;simp)]
   | cons x r =>
    by_cases hx:x<0x80∨0xbf<x
    ·rw[begins_none c (x :: r) 2 2 _ hs (by decide) (by decide) (by simp) (by simp[follow,hx])]
    ·exact begins_out c (x :: r) 2 2 _ ((c-0xc0)*64+x-0x80) ((c-0xc0)*64+x-0x80) ((c-0xc0)*64+x-0x80) hs (by decide) (by decide) (by simp) (by simp[follow,hx]) rfl (by rw[l2];left;omega)
  have hp:pieceU (c :: r)=(1,0xfffd,false):=piece_bad _ 1 (by
   intro k k1 k4 ⟨g,_⟩;have:k=1∨k=2∨k=3∨k=4:=by omega
   rcases this with rfl|rfl|rfl|rfl
   ·rw[b1]at g;cases g
   ·rw[b2]at g;cases g
   ·rw[b3]at g;cases g
   ·rw[b4]at g;cases g) (by rw[b4,b3,b2];simp)
  have hl:lookU (c :: r)=(0,false):=by rw[look_cons,if_neg (by omega),if_pos hc]
  exact⟨by rw[hp,hl],by rw[hp,hl];rfl,fun _=>by rw[hp],fun h=>by rw[hl]at h;cases h⟩
 ·have b1:begins (c :: r) 1=(true,2,c-0xc0):=begins_yes c r 1 2 _ (c-0xc0) ((c-0xc0)*64) ((c-0xc0)*64+63) hs (by decide) (by decide) (by omega) rfl rfl (by rw[l2];omega) (by rw[l2];left;omega);have hl:lookU (c :: r)=contU 1 0x80 0xbf 1 r:=by rw[look_cons,if_neg (by omega),if_neg hc,if_pos h2]
  have bad:(begins (c :: r) 2).1=false→lookU (c :: r)=(1,false)→Same (c :: r):=fun b2 hl'=>by
   have hp:pieceU (c :: r)=(1,0xfffd,false):=piece_bad _ 1 (by
    intro k k1 k4 ⟨g,g2⟩;have:k=1∨k=2∨k=3∨k=4:=by omega
    rcases this with rfl|rfl|rfl|rfl
    ·rw[b1]at g2;cases g2
    ·rw[b2]at g;cases g
    ·rw[b3]at g;cases g
    ·rw[b4]at g;cases g) (by rw[b4,b3,b2];simp)
   exact⟨by rw[hp,hl'],by rw[hp,hl'];rfl,fun _=>by rw[hp],fun h=>by rw[hl']at h;cases h⟩
  cases r with
  | nil=>exact bad (by rw[begins_len c [] 2 (by right;simp)]) hl
  | cons x r =>
   by_cases hx:x<0x80∨0xbf<x
   ·exact bad (by rw[begins_none c (x :: r) 2 2 _ hs (by decide) (by decide) (by simp) (by simp[follow,hx])]) (by rw[hl];simp[contU,hx])
   ·have b2:begins (c :: x :: r) 2=(true,2,(c-0xc0)*64+x-0x80):=begins_yes c (x :: r) 2 2 _ ((c-0xc0)*64+x-0x80) ((c-0xc0)*64+x-0x80) ((c-0xc0)*64+x-0x80) hs (by decide) (by decide) (by simp) (by simp[follow,hx]) rfl (by rw[l2];omega) (by rw[l2];left;omega);have hp:=piece_two _ _ (by rw[b1];simp) b2;have hl':lookU (c :: x :: r)=(2,true):=by rw[hl];simp[contU,hx]
    refine⟨by rw[hp,hl'],by rw[hp,hl'];rfl,(fun h=>by rw[hl']at h;cases h),fun _=>?_⟩;rw[hp];refine⟨?_,by simp;omega,by simp;omega⟩;show encN ((c-0xc0)*64+x-0x80)=[c,x]
    rw[enc_two _ (by omega) (by omega)];have e1:0xc0+((c-0xc0)*64+x-0x80) / 64=c:=by omega
    have e2:0x80+((c-0xc0)*64+x-0x80)%64=x:=by omega
    rw[e1,e2]
theorem piece_three (b:List Nat)(v:Nat)(h1:¬((begins b 1).1=true∧(begins b 1).2.1=1))(h2:¬((begins b 2).1=true∧(begins b 2).2.1=2))(h:begins b 3=(true,3,v)):pieceU b=(3,v,true):=by
 unfold pieceU;simp only[pieceFrom];rw[if_neg h1,if_neg h2,h];simp
theorem piece_four (b:List Nat)(v:Nat)(h1:¬((begins b 1).1=true∧(begins b 1).2.1=1))(h2:¬((begins b 2).1=true∧(begins b 2).2.1=2))(h3:¬((begins b 3).1=true∧(begins b 3).2.1=3))(h:begins b 4=(true,4,v)):pieceU b=(4,v,true):=by
 unfold pieceU;simp only[pieceFrom];rw[if_neg h1,if_neg h2,if_neg h3,h];simp
theorem same_bad (b:List Nat)(k:Nat)(hl:lookU b=(k,false))(hk:k<4)(hn:∀j,1≤j→j≤4→(begins b j).1=true→(begins b j).2.1≠j)
  (hy:2≤k→(begins b k).1=true) (hz:∀j,2≤j→j≤4→k<j→(begins b j).1=false):Same b:=by
 have hp:pieceU b=(max k 1,0xfffd,false):=piece_bad b _ (fun j h1 h2 ⟨g,g2⟩=>hn j h1 h2 g g2) (by
  rw[hz 4 (by omega) (by omega) (by omega)];rw[if_neg (by decide)];have:k=0∨k=1∨k=2∨k=3:=by omega
  rcases this with rfl|rfl|rfl|rfl
  ·rw[hz 3 (by omega) (by omega) (by omega),hz 2 (by omega) (by omega) (by omega)];rfl
  ·rw[hz 3 (by omega) (by omega) (by omega),hz 2 (by omega) (by omega) (by omega)];rfl
  ·rw[hz 3 (by omega) (by omega) (by omega),hy (by omega)];rfl
  ·rw[hy (by omega)];rfl)
 exact⟨by rw[hp,hl],by rw[hp,hl],fun _=>by rw[hp],fun h=>by rw[hl]at h;cases h⟩
theorem begins_num (c:Nat)(r:List Nat)(k n v0:Nat)(hs:size c=(n,v0)):(begins (c :: r) k).1=true→(begins (c :: r) k).2.1=n:=by
 show(if (size c).1=0∨(size c).1<k∨(c :: r).length<k then (false,0,0)else _:Bool × Nat × Nat).1=true→(if (size c).1=0∨(size c).1<k∨(c :: r).length<k then (false,0,0)else _:Bool × Nat × Nat).2.1=n;split
 ·intro h;cases h
 ·rw[hs];cases follow (k-1) v0 r with
  | none=>intro h;cases h
  | some v=>intro _;rfl
def lo3 (c:Nat):Nat:=if c=0xe0 then 0xa0 else 0x80
def hi3 (c:Nat):Nat:=if c=0xed then 0x9f else 0xbf
theorem same_three (c:Nat)(r:List Nat)(h1:0xe0≤c)(h2:c<0xf0):Same (c :: r):=by
 have hs:size c=(3,c-0xe0):=by
  unfold size;rw[if_neg (by omega),if_neg (by omega),if_pos ⟨h1,h2⟩]
 have l3:least 3=0x800:=rfl;have b4:begins (c :: r) 4=(false,0,0):=begins_len c r 4 (by rw[hs];left;show 3<4;decide);have hlo:lo3 c=0xa0∧c=0xe0∨lo3 c=0x80∧c≠0xe0:=by unfold lo3;split<;>simp_all
 have hhi:hi3 c=0x9f∧c=0xed∨hi3 c=0xbf∧c≠0xed:=by unfold hi3;split<;>simp_all
 have hl:lookU (c :: r)=contU 2 (lo3 c) (hi3 c) 1 r:=by
  rw[look_cons,if_neg (by omega),if_neg (by omega),if_neg (by omega)];unfold lo3 hi3;by_cases e:c=0xe0
  ·rw[if_pos e,if_pos e,if_neg (by omega)]
  ·rw[if_neg e,if_neg e];by_cases e':c=0xed
   ·rw[if_pos e',if_pos e']
   ·rw[if_neg e',if_neg e',if_pos h2]
 have hn3:∀j,j≠3→(begins (c :: r) j).1=true→(begins (c :: r) j).2.1≠j:=fun j hj h=>by
  rw[begins_num c r j 3 _ hs h];exact fun e=>hj e.symm
 have bad:∀k,k<3→lookU (c :: r)=(k,false)→(2≤k→(begins (c :: r) k).1=true)→(∀j,2≤j→j≤3→k<j→(begins (c :: r) j).1=false)→Same (c :: r):=fun k hk hl' hy hz =>
  same_bad _ k hl' (by omega) (fun j j1 j4 g=>by
   by_cases e:j=3
   ·subst e;rw[hz 3 (by omega) (by omega) (by omega)]at g;cases g
   ·exact hn3 j e g) hy (fun j j2 j4 hkj=>by
   by_cases e:j=4
   ·subst e;rw[b4]
   ·exact hz j j2 (by omega) hkj)
 cases r with
 | nil=>exact bad 1 (by omega) hl (fun h=>by omega) (fun j j2 j3 _=>by rw[begins_len c [] j (by right;simp;omega)])
 | cons x r =>
  by_cases hx:x<lo3 c∨hi3 c<x
  ·refine bad 1 (by omega) (by rw[hl];simp[contU,hx]) (fun h=>by omega) (fun j j2 j3 _=>?_);by_cases hx':x<0x80∨0xbf<x
   ·by_cases e:j≤(x :: r).length+1
    ·have hf:follow (j-1) (c-0xe0) (x :: r)=none:=by
      obtain⟨i,rfl⟩:∃i,j=i+2:=⟨j-2,by omega⟩
      simp[follow,hx']
     rw[begins_none c (x :: r) j 3 _ hs (by decide) j3 e hf]
    ·rw[begins_len c (x :: r) j (by right;omega)]
   ·have hj:j=2∨j=3:=by omega
    rcases hj with rfl|rfl
    ·exact begins_out c (x :: r) 2 3 _ ((c-0xe0)*64+x-0x80) (((c-0xe0)*64+x-0x80)*64) (((c-0xe0)*64+x-0x80)*64+63) hs (by decide) (by decide) (by simp) (by simp[follow,hx']) rfl (by rw[l3];omega)
    ·cases r with
     | nil=>rw[begins_len c [x] 3 (by right;simp)]
     | cons y r =>
      by_cases hy:y<0x80∨0xbf<y
      ·rw[begins_none c (x :: y :: r) 3 3 _ hs (by decide) (by decide) (by simp) (by simp[follow,hx',hy])]
      ·exact begins_out c (x :: y :: r) 3 3 _ (((c-0xe0)*64+x-0x80)*64+y-0x80) (((c-0xe0)*64+x-0x80)*64+y-0x80) (((c-0xe0)*64+x-0x80)*64+y-0x80) hs (by decide) (by decide) (by simp) (by simp[follow,hx',hy]) rfl (by rw[l3];omega)
  ·have hx':¬(x<0x80∨0xbf<x):=by omega
   have b2:(begins (c :: x :: r) 2).1=true:=by
    rw[begins_yes c (x :: r) 2 3 _ ((c-0xe0)*64+x-0x80) (((c-0xe0)*64+x-0x80)*64) (((c-0xe0)*64+x-0x80)*64+63) hs (by decide) (by decide) (by simp) (by simp[follow,hx']) rfl (by rw[l3];omega) (by rw[l3];omega)]
   cases r with
   | nil=>exact bad 2 (by omega) (by rw[hl];simp[contU,hx]) (fun _=>b2) (fun j j2 j3 h=>by rw[begins_len c [x] j (by right;simp;omega)])
   | cons y r =>
    by_cases hy:y<0x80∨0xbf<y
    ·refine bad 2 (by omega) (by rw[hl];simp[contU,hx,hy]) (fun _=>b2) (fun j j2 j3 h=>?_);obtain rfl:j=3:=by omega
     rw[begins_none c (x :: y :: r) 3 3 _ hs (by decide) (by decide) (by simp) (by simp[follow,hx',hy])]
    ·have b3:begins (c :: x :: y :: r) 3=(true,3,((c-0xe0)*64+x-0x80)*64+y-0x80):=begins_yes c (x :: y :: r) 3 3 _ (((c-0xe0)*64+x-0x80)*64+y-0x80) (((c-0xe0)*64+x-0x80)*64+y-0x80) (((c-0xe0)*64+x-0x80)*64+y-0x80) hs (by decide) (by decide) (by simp) (by simp[follow,hx',hy]) rfl (by rw[l3];omega) (by rw[l3];omega);have hp:=piece_three _ _ (fun h=>hn3 1 (by decide) h.1 h.2) (fun h=>hn3 2 (by decide) h.1 h.2) b3;have hl':lookU (c :: x :: y :: r)=(3,true):=by rw[hl];simp[contU,hx,hy]
     refine⟨by rw[hp,hl'],by rw[hp,hl'];rfl,(fun h=>by rw[hl']at h;cases h),fun _=>?_⟩;rw[hp];refine⟨?_,by simp;omega,by simp;omega⟩;show encN (((c-0xe0)*64+x-0x80)*64+y-0x80)=[c,x,y]
     rw[enc_three _ (by omega) (by omega)];have e1:0xe0+(((c-0xe0)*64+x-0x80)*64+y-0x80) / 4096=c:=by omega
     have e2:0x80+(((c-0xe0)*64+x-0x80)*64+y-0x80) / 64%64=x:=by omega
     have e3:0x80+(((c-0xe0)*64+x-0x80)*64+y-0x80)%64=y:=by omega
     rw[e1,e2,e3]
def lo4 (c:Nat):Nat:=if c=0xf0 then 0x90 else 0x80
def hi4 (c:Nat):Nat:=if c=0xf4 then 0x8f else 0xbf
theorem same_four_out (c:Nat)(r:List Nat)(h1:0xf5≤c)(h2:c<0xf8):Same (c :: r):=by
 have hs:size c=(4,c-0xf0):=by
  unfold size;rw[if_neg (by omega),if_neg (by omega),if_neg (by omega),if_pos ⟨by omega,h2⟩]
 have l4:least 4=0x10000:=rfl;have hl:lookU (c :: r)=(0,false):=by
  rw[look_cons,if_neg (by omega),if_neg (by omega),if_neg (by omega),if_neg (by omega),if_neg (by omega),if_neg (by omega),if_neg (by omega),if_neg (by omega),if_neg (by omega)]
 have all:∀j,1≤j→j≤4→(begins (c :: r) j).1=false:=fun j j1 j4=>by
  by_cases e:j≤r.length+1
  ·have hj:j=1∨j=2∨j=3∨j=4:=by omega
   rcases hj with rfl|rfl|rfl|rfl
   ·exact begins_out c r 1 4 _ (c-0xf0) ((c-0xf0)*64*64*64) ((((c-0xf0)*64+63)*64+63)*64+63) hs (by decide) (by decide) (by omega) rfl rfl (by rw[l4];omega)
   ·cases r with
    | nil=>simp at e
    | cons x r =>
     by_cases hx:x<0x80∨0xbf<x
     ·rw[begins_none c (x :: r) 2 4 _ hs (by decide) (by decide) (by simp) (by simp[follow,hx])]
     ·exact begins_out c (x :: r) 2 4 _ ((c-0xf0)*64+x-0x80) (((c-0xf0)*64+x-0x80)*64*64) ((((c-0xf0)*64+x-0x80)*64+63)*64+63) hs (by decide) (by decide) (by simp) (by simp[follow,hx]) rfl (by rw[l4];omega)
   ·match r,e with
    | [],e=>simp at e
    | [x],e=>simp at e
    | x :: y :: r,_ =>
     by_cases hx:x<0x80∨0xbf<x
     ·rw[begins_none c (x :: y :: r) 3 4 _ hs (by decide) (by decide) (by simp) (by simp[follow,hx])]
     by_cases hy:y<0x80∨0xbf<y
     ·rw[begins_none c (x :: y :: r) 3 4 _ hs (by decide) (by decide) (by simp) (by simp[follow,hx,hy])]
     ·exact begins_out c (x :: y :: r) 3 4 _ (((c-0xf0)*64+x-0x80)*64+y-0x80) ((((c-0xf0)*64+x-0x80)*64+y-0x80)*64) ((((c-0xf0)*64+x-0x80)*64+y-0x80)*64+63) hs (by decide) (by decide) (by simp) (by simp[follow,hx,hy]) rfl (by rw[l4];omega)
   ·match r,e with
    | [],e=>simp at e
    | [x],e=>simp at e
    | [x,y],e=>simp at e
    | x :: y :: z :: r,_ =>
     by_cases hx:x<0x80∨0xbf<x
     ·rw[begins_none c (x :: y :: z :: r) 4 4 _ hs (by decide) (by decide) (by simp) (by simp[follow,hx])]
     by_cases hy:y<0x80∨0xbf<y
     ·rw[begins_none c (x :: y :: z :: r) 4 4 _ hs (by decide) (by decide) (by simp) (by simp[follow,hx,hy])]
     by_cases hz:z<0x80∨0xbf<z
     ·rw[begins_none c (x :: y :: z :: r) 4 4 _ hs (by decide) (by decide) (by simp) (by simp[follow,hx,hy,hz])]
     ·exact begins_out c (x :: y :: z :: r) 4 4 _ ((((c-0xf0)*64+x-0x80)*64+y-0x80)*64+z-0x80) ((((c-0xf0)*64+x-0x80)*64+y-0x80)*64+z-0x80) ((((c-0xf0)*64+x-0x80)*64+y-0x80)*64+z-0x80) hs (by decide) (by decide) (by simp) (by simp[follow,hx,hy,hz]) rfl (by rw[l4];omega)
  ·rw[begins_len c r j (by right;omega)]
 exact same_bad _ 0 hl (by omega) (fun j j1 j4 g=>by rw[all j j1 j4]at g;cases g) (fun h=>by omega) (fun j j2 j4 _=>all j (by omega) j4)
theorem same_four (c:Nat)(r:List Nat)(h1:0xf0≤c)(h2:c<0xf5):Same (c :: r):=by
 have hs:size c=(4,c-0xf0):=by
  unfold size;rw[if_neg (by omega),if_neg (by omega),if_neg (by omega),if_pos ⟨by omega,by omega⟩]
 have l4:least 4=0x10000:=rfl;have hlo:lo4 c=0x90∧c=0xf0∨lo4 c=0x80∧c≠0xf0:=by unfold lo4;split<;>simp_all
 have hhi:hi4 c=0x8f∧c=0xf4∨hi4 c=0xbf∧c≠0xf4:=by unfold hi4;split<;>simp_all
 have hl:lookU (c :: r)=contU 3 (lo4 c) (hi4 c) 1 r:=by
  rw[look_cons,if_neg (by omega),if_neg (by omega),if_neg (by omega),if_neg (by omega),if_neg (by omega),if_neg (by omega)];unfold lo4 hi4;by_cases e:c=0xf0
  ·rw[if_pos e,if_pos e,if_neg (by omega)]
  ·rw[if_neg e,if_neg e];by_cases e':c=0xf4
   ·rw[if_neg (by omega),if_pos e',if_pos e']
   ·rw[if_pos (by omega),if_neg e']
 have hn4:∀j,j≠4→(begins (c :: r) j).1=true→(begins (c :: r) j).2.1≠j:=fun j hj h=>by
  rw[begins_num c r j 4 _ hs h];exact fun e=>hj e.symm
 have bad:∀k,k<4→lookU (c :: r)=(k,false)→(2≤k→(begins (c :: r) k).1=true)→(∀j,2≤j→j≤4→k<j→(begins (c :: r) j).1=false)→Same (c :: r):=fun k hk hl' hy hz =>
  same_bad _ k hl' (by omega) (fun j j1 j4 g=>by
   by_cases e:j=4
   ·subst e;rw[hz 4 (by omega) (by omega) (by omega)]at g;cases g
   ·exact hn4 j e g) hy hz
 cases r with
 | nil=>exact bad 1 (by omega) hl (fun h=>by omega) (fun j j2 j3 _=>by rw[begins_len c [] j (by right;simp;omega)])
 | cons x r =>
  by_cases hx:x<lo4 c∨hi4 c<x
  ·refine bad 1 (by omega) (by rw[hl];simp[contU,hx]) (fun h=>by omega) (fun j j2 j3 _=>?_);by_cases hx':x<0x80∨0xbf<x
   ·by_cases e:j≤(x :: r).length+1
    ·have hf:follow (j-1) (c-0xf0) (x :: r)=none:=by
      obtain⟨i,rfl⟩:∃i,j=i+2:=⟨j-2,by omega⟩
      simp[follow,hx']
     rw[begins_none c (x :: r) j 4 _ hs (by decide) j3 e hf]
    ·rw[begins_len c (x :: r) j (by right;omega)]
   ·have hj:j=2∨j=3∨j=4:=by omega
    rcases hj with rfl|rfl|rfl
    ·exact begins_out c (x :: r) 2 4 _ ((c-0xf0)*64+x-0x80) (((c-0xf0)*64+x-0x80)*64*64) ((((c-0xf0)*64+x-0x80)*64+63)*64+63) hs (by decide) (by decide) (by simp) (by simp[follow,hx']) rfl (by rw[l4];omega)
    ·cases r with
     | nil=>rw[begins_len c [x] 3 (by right;simp)]
     | cons y r =>
      by_cases hy:y<0x80∨0xbf<y
      ·rw[begins_none c (x :: y :: r) 3 4 _ hs (by decide) (by decide) (by simp) (by simp[follow,hx',hy])]
      ·exact begins_out c (x :: y :: r) 3 4 _ (((c-0xf0)*64+x-0x80)*64+y-0x80) ((((c-0xf0)*64+x-0x80)*64+y-0x80)*64) ((((c-0xf0)*64+x-0x80)*64+y-0x80)*64+63) hs (by decide) (by decide) (by simp) (by simp[follow,hx',hy]) rfl (by rw[l4];omega)
    ·match r with
     | []=>rw[begins_len c [x] 4 (by right;simp)]
     | [y]=>rw[begins_len c [x,y] 4 (by right;simp)]
     | y :: z :: r =>
      by_cases hy:y<0x80∨0xbf<y
      ·rw[begins_none c (x :: y :: z :: r) 4 4 _ hs (by decide) (by decide) (by simp) (by simp[follow,hx',hy])]
      by_cases hz:z<0x80∨0xbf<z
      ·rw[begins_none c (x :: y :: z :: r) 4 4 _ hs (by decide) (by decide) (by simp) (by simp[follow,hx',hy,hz])]
      ·exact begins_out c (x :: y :: z :: r) 4 4 _ ((((c-0xf0)*64+x-0x80)*64+y-0x80)*64+z-0x80) ((((c-0xf0)*64+x-0x80)*64+y-0x80)*64+z-0x80) ((((c-0xf0)*64+x-0x80)*64+y-0x80)*64+z-0x80) hs (by decide) (by decide) (by simp) (by simp[follow,hx',hy,hz]) rfl (by rw[l4];omega)
  ·have hx':¬(x<0x80∨0xbf<x):=by omega
   have b2:(begins (c :: x :: r) 2).1=true:=by
    rw[begins_yes c (x :: r) 2 4 _ ((c-0xf0)*64+x-0x80) (((c-0xf0)*64+x-0x80)*64*64) ((((c-0xf0)*64+x-0x80)*64+63)*64+63) hs (by decide) (by decide) (by simp) (by simp[follow,hx']) rfl (by rw[l4];omega) (by rw[l4];omega)]
   cases r with
   | nil=>exact bad 2 (by omega) (by rw[hl];simp[contU,hx]) (fun _=>b2) (fun j j2 j3 h=>by rw[begins_len c [x] j (by right;simp;omega)])
   | cons y r =>
    by_cases hy:y<0x80∨0xbf<y
    ·refine bad 2 (by omega) (by rw[hl];simp[contU,hx,hy]) (fun _=>b2) (fun j j2 j3 h=>?_);by_cases e:j≤(x :: y :: r).length+1
     ·have hf:follow (j-1) (c-0xf0) (x :: y :: r)=none:=by
       obtain⟨i,rfl⟩:∃i,j=i+3:=⟨j-3,by omega⟩
       simp[follow,hx',hy]
      rw[begins_none c (x :: y :: r) j 4 _ hs (by decide) j3 e hf]
     ·rw[begins_len c (x :: y :: r) j (by right;omega)]
    ·have b3:(begins (c :: x :: y :: r) 3).1=true:=by
      rw[begins_yes c (x :: y :: r) 3 4 _ (((c-0xf0)*64+x-0x80)*64+y-0x80) ((((c-0xf0)*64+x-0x80)*64+y-0x80)*64) ((((c-0xf0)*64+x-0x80)*64+y-0x80)*64+63) hs (by decide) (by decide) (by simp) (by simp[follow,hx',hy]) rfl (by rw[l4];omega) (by rw[l4];omega)]
     cases r with
     | nil=>exact bad 3 (by omega) (by rw[hl];simp[contU,hx,hy]) (fun _=>b3) (fun j j2 j3 h=>by rw[begins_len c [x,y] j (by right;simp;omega)])
     | cons z r =>
      by_cases hz:z<0x80∨0xbf<z
      ·refine bad 3 (by omega) (by rw[hl];simp[contU,hx,hy,hz]) (fun _=>b3) (fun j j2 j3 h=>?_);obtain rfl:j=4:=by omega
       rw[begins_none c (x :: y :: z :: r) 4 4 _ hs (by decide) (by decide) (by simp) (by simp[follow,hx',hy,hz])]
      ·have b4:begins (c :: x :: y :: z :: r) 4=(true,4,((((c-0xf0)*64+x-0x80)*64+y-0x80)*64+z-0x80)):=begins_yes c (x :: y :: z :: r) 4 4 _ ((((c-0xf0)*64+x-0x80)*64+y-0x80)*64+z-0x80) ((((c-0xf0)*64+x-0x80)*64+y-0x80)*64+z-0x80) ((((c-0xf0)*64+x-0x80)*64+y-0x80)*64+z-0x80) hs (by decide) (by decide) (by simp) (by simp[follow,hx',hy,hz]) rfl (by rw[l4];omega) (by rw[l4];omega);have hp:=piece_four _ _ (fun h=>hn4 1 (by decide) h.1 h.2) (fun h=>hn4 2 (by decide) h.1 h.2) (fun h=>hn4 3 (by decide) h.1 h.2) b4;have hl':lookU (c :: x :: y :: z :: r)=(4,true):=by rw[hl];simp[contU,hx,hy,hz]
       refine⟨by rw[hp,hl'],by rw[hp,hl'];rfl,(fun h=>by rw[hl']at h;cases h),fun _=>?_⟩;rw[hp];refine⟨?_,by simp;omega,by simp;omega⟩;show encN ((((c-0xf0)*64+x-0x80)*64+y-0x80)*64+z-0x80)=[c,x,y,z]
       rw[enc_four _ (by omega)];have e1:0xf0+((((c-0xf0)*64+x-0x80)*64+y-0x80)*64+z-0x80) / 262144=c:=by omega
       have e2:0x80+((((c-0xf0)*64+x-0x80)*64+y-0x80)*64+z-0x80) / 4096%64=x:=by omega
       have e3:0x80+((((c-0xf0)*64+x-0x80)*64+y-0x80)*64+z-0x80) / 64%64=y:=by omega
       have e4:0x80+((((c-0xf0)*64+x-0x80)*64+y-0x80)*64+z-0x80)%64=z:=by omega
       rw[e1,e2,e3,e4]
theorem sameU (b:List Nat)(hb:b≠[]):Same b:=by
 cases b with
 | nil=>exact absurd rfl hb
 | cons c r =>
  by_cases h1:c<0x80
  ·exact same_one c r h1
  by_cases h2:c<0xc0
  ·exact same_none c r (by omega)
  by_cases h3:c<0xe0
  ·exact same_two c r (by omega) h3
  by_cases h4:c<0xf0
  ·exact same_three c r (by omega) h4
  by_cases h5:c<0xf5
  ·exact same_four c r (by omega) h5
  by_cases h6:c<0xf8
  ·exact same_four_out c r (by omega) h6
  ·exact same_none c r (by omega)
end Go.Proofs.YtcfgbdhpcboikaaGreatDoor.PU8
