/-
  The document's utf8: size, least, Char.
  The document's utf8: begins.
  The document's utf8: begins, walked.
  The document's utf8: Piece.
  The document's utf8: Bytes (the bytes of a character).
  The document's utf8: Runes (the characters of bytes).
  The document's utf8: Encode (the bytes of numbers that are characters).
  The document's Text: what it answers.
-/
import Derived.Test.YtcfgbdhpcboikaaGreatDoorTextLawB
import Derived.Test.YtcfgbdhpcboikaaGreatDoorLookX
import Derived.Test.YtcfgbdhpcboikaaGreatDoorShelf
import Derived.Test.YtcfgbdhpcboikaaGreatDoorAttrL
namespace Go.Proofs.YtcfgbdhpcboikaaGreatDoor
set_option maxHeartbeats 2000000
set_option maxRecDepth 100000
open Go.RowKit PU8
theorem size_b1 (c:Nat)(h:c<128):PU8.size c=(1,c):=by unfold PU8.size;rw[if_pos h]
theorem size_b0 (c:Nat)(h:128≤c)(h2:c<192):PU8.size c=(0,0):=by unfold PU8.size;rw[if_neg (by omega),if_neg (by omega),if_neg (by omega),if_neg (by omega)]
theorem size_b2 (c:Nat)(h:192≤c)(h2:c<224):PU8.size c=(2,c-192):=by unfold PU8.size;rw[if_neg (by omega),if_pos (by omega)]
theorem size_b3 (c:Nat)(h:224≤c)(h2:c<240):PU8.size c=(3,c-224):=by unfold PU8.size;rw[if_neg (by omega),if_neg (by omega),if_pos (by omega)]
theorem size_b4 (c:Nat)(h:240≤c)(h2:c<248):PU8.size c=(4,c-240):=by unfold PU8.size;rw[if_neg (by omega),if_neg (by omega),if_neg (by omega),if_pos (by omega)]
theorem size_b5 (c:Nat)(h:248≤c):PU8.size c=(0,0):=by unfold PU8.size;rw[if_neg (by omega),if_neg (by omega),if_neg (by omega),if_neg (by omega)]
theorem ret_ii {a b c d:Int}(h:a=c)(h2:b=d):Ending.returned (.tuple #[.int .i64 a,.int .i64 b])=.returned (.tuple #[.int .i64 c,.int .i64 d]):=by rw[h,h2]
theorem ret_bb {a b:Bool}(h:a=b):Ending.returned (.bool a)=.returned (.bool b):=by rw[h]
theorem ret_one {a b:Int}(h:a=b):Ending.returned (.int .i64 a)=.returned (.int .i64 b):=by rw[h]
theorem rsize_any (c:UInt8)(n v:Nat)(w:World)(hs:Hid (PU8.size c.toNat=(n,v))) :
  Calls Tryz.prog 180 #[.int .u8 c.toNat] w fun e w'=>e=.returned (.tuple #[.int .i64 n,.int .i64 v])∧w=w':=by
 have hc:c.toNat<256:=c.toNat_lt
 generalize c.toNat=c at hs hc
 have hcases:c<128∨(128≤c∧c<192)∨(192≤c∧c<224)∨(224≤c∧c<240)∨(240≤c∧c<248)∨248≤c:=by omega
 rcases hcases with h|⟨h,h2⟩|⟨h,h2⟩|⟨h,h2⟩|⟨h,h2⟩|h
 ·have hb:=size_b1 c h
  rw[hs.out] at hb
  obtain⟨rfl,rfl⟩:=Prod.mk.inj hb
  clear hb
  go_enter Tryz.func180,Tryz.ntmps180
  go_wp2
  go_ret2
  exact⟨ret_ii (by omega) (by omega),rfl⟩
 ·have hb:=size_b0 c h h2
  rw[hs.out] at hb
  obtain⟨rfl,rfl⟩:=Prod.mk.inj hb
  clear hb
  go_enter Tryz.func180,Tryz.ntmps180
  go_wp2
  go_ret2
  exact⟨ret_ii (by omega) (by omega),rfl⟩
 ·have hb:=size_b2 c h h2
  rw[hs.out] at hb
  obtain⟨rfl,rfl⟩:=Prod.mk.inj hb
  clear hb
  go_enter Tryz.func180,Tryz.ntmps180
  go_wp2
  go_ret2
  exact⟨ret_ii (by omega) (by omega),rfl⟩
 ·have hb:=size_b3 c h h2
  rw[hs.out] at hb
  obtain⟨rfl,rfl⟩:=Prod.mk.inj hb
  clear hb
  go_enter Tryz.func180,Tryz.ntmps180
  go_wp2
  go_ret2
  exact⟨ret_ii (by omega) (by omega),rfl⟩
 ·have hb:=size_b4 c h h2
  rw[hs.out] at hb
  obtain⟨rfl,rfl⟩:=Prod.mk.inj hb
  clear hb
  go_enter Tryz.func180,Tryz.ntmps180
  go_wp2
  go_ret2
  exact⟨ret_ii (by omega) (by omega),rfl⟩
 ·have hb:=size_b5 c h
  rw[hs.out] at hb
  obtain⟨rfl,rfl⟩:=Prod.mk.inj hb
  clear hb
  go_enter Tryz.func180,Tryz.ntmps180
  go_wp2
  go_ret2
  exact⟨ret_ii (by omega) (by omega),rfl⟩
theorem rleast_any (n:Nat)(hn:n≤4)(w:World):Calls Tryz.prog 181 #[.int .i64 n] w fun e w'=>e=.returned (.int .i64 (PU8.least n:Nat))∧w=w':=by
 have hcases:n=0∨n=1∨n=2∨n=3∨n=4:=by omega
 have hl0:PU8.least 0=0:=rfl
 have hl1:PU8.least 1=0:=rfl
 have hl2:PU8.least 2=128:=rfl
 have hl3:PU8.least 3=2048:=rfl
 have hl4:PU8.least 4=65536:=rfl
 rcases hcases with rfl|rfl|rfl|rfl|rfl
 all_goals
  simp only[hl0,hl1,hl2,hl3,hl4]
  clear hl0 hl1 hl2 hl3 hl4
  go_enter Tryz.func181,Tryz.ntmps181
  go_wp2
  go_ret
  exact⟨ret_one (by simp),rfl⟩
theorem rchar_yes (c:Nat)(h:Val c)(w:World):Calls Tryz.prog 131 #[.int .i64 c] w fun e w'=>e=.returned (.bool true)∧w=w':=by
 obtain⟨h1,h2⟩:=h
 rcases h1 with h1|h1
 ·go_enter Tryz.func131,Tryz.ntmps131
  go_wp2
  go_ret
  exact⟨rfl,rfl⟩
 ·go_enter Tryz.func131,Tryz.ntmps131
  go_wp2
  go_ret
  exact⟨ret_bb (by simp;omega),rfl⟩
open Go.RowKit PU8
structure FolAt (L:List UInt8) (i k v0 j v:Nat):Prop where
 lo:1≤j
 hi:j≤k
 bd:v<256*64^(j-1)
 out:PU8.follow (k-1) v0 (natsU (L.drop (i+1)))=PU8.follow (k-j) v (natsU (L.drop (i+j)))
theorem pow_at (j:Nat)(h1:1≤j)(h:j≤4):256*64^(j-1)≤67108864:=by
 have:j=1∨j=2∨j=3∨j=4:=by omega
 rcases this with rfl|rfl|rfl|rfl<;>decide
theorem FolAt.le {L:List UInt8}{i k v0 j v:Nat}(h:FolAt L i k v0 j v)(hk:k≤4):v<67108864:=by
 have h1:=h.bd
 have h2:=pow_at j h.lo (by have:=h.hi;omega)
 omega
theorem FolAt.start (L:List UInt8)(i k v0:Nat)(hk:1≤k)(hv:v0<256):FolAt L i k v0 1 v0:=⟨Nat.le_refl _,hk,by simpa using hv,rfl⟩
theorem nats_at (L:List UInt8)(i:Nat)(h:i<L.length):natsU (L.drop i)=L[i].toNat :: natsU (L.drop (i+1)):=by
 rw[List.drop_eq_getElem_cons h]
 rfl
theorem FolAt.next {L:List UInt8}{i k v0 j v:Nat}(h:FolAt L i k v0 j v)(hj:j<k)(hl:i+j<L.length)(c:Nat)(hc:L[i+j].toNat=c)(h1:128≤c)(h2:c≤191):FolAt L i k v0 (j+1) (v*64+c-128):=by
 refine⟨by omega,by omega,?_,?_⟩
 ·have hb:=h.bd
  have hlo:=h.lo
  have:64^(j+1-1)=64^(j-1)*64:=by rw[← Nat.pow_succ];congr 1;omega
  rw[this]
  omega
 ·rw[h.out,nats_at L (i+j) hl,hc,show k-j=(k-(j+1))+1 from by omega]
  conv=>lhs;unfold PU8.follow
  rw[if_neg (by omega),Nat.add_assoc]
theorem FolAt.none {L:List UInt8}{i k v0 j v:Nat}(h:FolAt L i k v0 j v)(hj:j<k)(hl:i+j<L.length)(c:Nat)(hc:L[i+j].toNat=c)(h1:c<128∨191<c):PU8.follow (k-1) v0 (natsU (L.drop (i+1)))=.none:=by
 rw[h.out,nats_at L (i+j) hl,hc,show k-j=(k-(j+1))+1 from by omega]
 unfold PU8.follow
 rw[if_pos (by omega)]
theorem FolAt.done {L:List UInt8}{i k v0 j v:Nat}(h:FolAt L i k v0 j v)(hj:k≤j):PU8.follow (k-1) v0 (natsU (L.drop (i+1)))=some v:=by
 rw[h.out,show k-j=0 from by omega]
 rfl
structure WidAt (n k v j lo hi:Nat):Prop where
 le1:k≤j
 le2:j≤n
 bl:lo<67108864*64^(j-k)
 bh:hi<67108864*64^(j-k)
 out:PU8.widen (n-k) v v=PU8.widen (n-j) lo hi
theorem wpow_at (j:Nat)(h:j≤3):67108864*64^j≤17592186044416:=by
 have:j=0∨j=1∨j=2∨j=3:=by omega
 rcases this with rfl|rfl|rfl|rfl<;>decide
theorem WidAt.le {n k v j lo hi:Nat}(h:WidAt n k v j lo hi)(hk:1≤k)(hn:n≤4):lo<17592186044416∧hi<17592186044416:=by
 have h1:=h.bl
 have h3:=h.bh
 have h2:=wpow_at (j-k) (by have:=h.le1;have:=h.le2;omega)
 omega
theorem WidAt.start (n k v:Nat)(hk:k≤n)(hv:v<67108864):WidAt n k v k v v:=⟨Nat.le_refl _,hk,by simpa using hv,by simpa using hv,rfl⟩
theorem WidAt.next {n k v j lo hi:Nat}(h:WidAt n k v j lo hi)(hj:j<n):WidAt n k v (j+1) (lo*64) (hi*64+63):=by
 have h1:=h.le1
 have hp:64^(j+1-k)=64^(j-k)*64:=by rw[← Nat.pow_succ];congr 1;omega
 have hb:=h.bl
 have hh:=h.bh
 refine⟨by omega,by omega,by rw[hp];omega,by rw[hp];omega,?_⟩
 rw[h.out,show n-j=(n-(j+1))+1 from by omega]
 rfl
theorem WidAt.done {n k v j lo hi:Nat}(h:WidAt n k v j lo hi)(hj:n≤j):PU8.widen (n-k) v v=(lo,hi):=by
 rw[h.out,show n-j=0 from by omega]
 rfl
open Go.RowKit PU8
theorem ret_bii {x y:Bool}{a b c d:Int}(h0:x=y)(h:a=c)(h2:b=d):Ending.returned (.tuple #[.bool x,.int .i64 a,.int .i64 b])=.returned (.tuple #[.bool y,.int .i64 c,.int .i64 d]):=by rw[h0,h,h2]
theorem size_le (c:Nat)(h:c<256):(PU8.size c).1≤4∧(PU8.size c).2<256:=by
 unfold PU8.size
 by_cases h1:c<128
 ·rw[if_pos h1];simp only;omega
 rw[if_neg h1]
 by_cases h2:192≤c∧c<224
 ·rw[if_pos h2];simp only;omega
 rw[if_neg h2]
 by_cases h3:224≤c∧c<240
 ·rw[if_pos h3];simp only;omega
 rw[if_neg h3]
 by_cases h4:240≤c∧c<248
 ·rw[if_pos h4];simp only;omega
 rw[if_neg h4]
 simp only;omega
theorem rbegins_none (g off cap i k n0 v0:Nat)(L:List UInt8)(w:World)(hB:Hid (BytesAt w g off L))(hi:i<L.length)(hL:L.length≤140737488355328)(hk:1≤k)(hk4:k≤4)
  (hs:Hid (PU8.size (L[i]'hi).toNat=(n0,v0))) (hn4:n0≤4) (hn:n0=0∨n0<k∨L.length<i+k) :
  Calls Tryz.prog 141 #[.slice (some ⟨g,off,none⟩) L.length cap,.int .i64 i,.int .i64 k] w fun e w'=>e=.returned (.tuple #[.bool false,.int .i64 0,.int .i64 0])∧w=w':=by
 have hc:=hB.out i hi
 by_cases h0:n0=0
 ·subst h0
  go_enter Tryz.func141,Tryz.ntmps141
  go_wp2_with (go_at_call 180;refine(rsize_any _ _ _ _ hs).mono ?_;rintro e w' ⟨rfl,rfl⟩)
  go_ret3
  exact⟨rfl,rfl⟩
 ·have t0:((n0:Int)==0)=false:=by simp;omega
  by_cases h1:n0<k
  ·have t1:decide ((n0:Int)<(k:Int))=true:=by simp;omega
   go_enter Tryz.func141,Tryz.ntmps141
   go_wp2_with (go_at_call 180;refine(rsize_any _ _ _ _ hs).mono ?_;rintro e w' ⟨rfl,rfl⟩)
   go_ret3
   exact⟨rfl,rfl⟩
  ·have h2:L.length<i+k:=by omega
   have t1:decide ((n0:Int)<(k:Int))=false:=by simp;omega
   go_enter Tryz.func141,Tryz.ntmps141
   go_wp2_with (go_at_call 180;refine(rsize_any _ _ _ _ hs).mono ?_;rintro e w' ⟨rfl,rfl⟩)
   go_ret3
   exact⟨rfl,rfl⟩
theorem begins_of (L:List UInt8)(i k n0 v0:Nat)(hi:i<L.length)(_hk:1≤k)(hs:PU8.size (L[i]'hi).toNat=(n0,v0))(h0:n0≠0)(hkn:k≤n0)(hl:i+k≤L.length) :
  begins (natsU (L.drop i)) k=match PU8.follow (k-1) v0 (natsU (L.drop (i+1))) with
   | none=>(false,0,0)
   | some v=>(decide (max (PU8.widen (n0-k) v v).1 (PU8.least n0)≤min (PU8.widen (n0-k) v v).2 0x10ffff)&&!(decide (0xd800≤max (PU8.widen (n0-k) v v).1 (PU8.least n0))&&decide (min (PU8.widen (n0-k) v v).2 0x10ffff≤0xdfff)),n0,v):=by
 rw[nats_at L i hi,begins_at _ _ k n0 v0 hs h0 hkn (by unfold natsU;rw[List.length_map,List.length_drop];omega)]
 cases PU8.follow (k-1) v0 (natsU (L.drop (i+1)))<;>rfl
theorem rbegins_read (g off cap i k n0 v0:Nat)(b:Bool)(n v:Nat)(L:List UInt8)(w:World)(hB:Hid (BytesAt w g off L))(hi:i<L.length)(hL:L.length≤140737488355328)(hk:1≤k)(hk4:k≤4)
  (hs:Hid (PU8.size (L[i]'hi).toNat=(n0,v0))) (hn4:n0≤4) (hv0:v0<256) (h0:n0≠0) (hkn:k≤n0) (hl:i+k≤L.length) (hr:Hid (begins (natsU (L.drop i)) k=(b,n,v))) :
  Calls Tryz.prog 141 #[.slice (some ⟨g,off,none⟩) L.length cap,.int .i64 i,.int .i64 k] w fun e w'=>e=.returned (.tuple #[.bool b,.int .i64 n,.int .i64 v])∧w=w':=by
 have hc:=hB.out i hi
 have t0:((n0:Int)==0)=false:=by simp;omega
 have t1:decide ((n0:Int)<(k:Int))=false:=by simp;omega
 have hb:=Lib.hid (begins_of L i k n0 v0 hi hk hs.out h0 hkn hl)
 go_enter Tryz.func141,Tryz.ntmps141
 go_wp2_with (go_at_call 180;refine(rsize_any _ _ _ _ hs).mono ?_;rintro e w' ⟨rfl,rfl⟩)
 clear hc
 go_loop [6,7,8,10,11] (fun r6 r7 r8 a j=>r6=.bool false∧r7=.int .i64 0∧r8=.int .i64 0∧∃ v' j':Nat,a=.int .i64 v'∧j=.int .i64 j'∧Hid (FolAt L i k v0 j' v')) (fun _ _ _ _ j=>k-(intOf j).toNat)
 case atStart=>exact⟨rfl,rfl,rfl,v0,1,rfl,rfl,Lib.hid (FolAt.start L i k v0 hk hv0)⟩
 case round =>
  obtain⟨rfl,rfl,rfl,v',j,rfl,rfl,hF⟩:=hrel
  have hvb:=hF.out.le hk4
  have hj1:=hF.out.lo
  have hj2:=hF.out.hi
  rcases Nat.lt_or_ge j k with hjk|hjk
  ·have hij:i+j<L.length:=by omega
   have hcj:=hB.out (i+j) hij
   have hcb:=(L[i+j]'hij).toNat_lt
   obtain⟨c,hcc⟩:∃ c,(L[i+j]'hij).toNat=c:=⟨_,rfl⟩
   rw[hcc] at hcj hcb
   have HC:=Lib.hid hcc
   clear hcc
   by_cases hc1:c<128
   ·have hz:=hb.out
    rw[hr.out,hF.out.none hjk hij c HC.out (.inl hc1)] at hz
    simp only[Prod.mk.injEq] at hz
    obtain⟨rfl,rfl,rfl⟩:=hz
    go_wp2
    go_ret3
    exact⟨rfl,rfl⟩
   ·by_cases hc2:191<c
    ·have hz:=hb.out
     rw[hr.out,hF.out.none hjk hij c HC.out (.inr hc2)] at hz
     simp only[Prod.mk.injEq] at hz
     obtain⟨rfl,rfl,rfl⟩:=hz
     go_wp2
     go_ret3
     exact⟨rfl,rfl⟩
    ·have HN:=Lib.hid (hF.out.next hjk hij c HC.out (by omega) (by omega))
     go_wp2
     go_round
     case rel=>exact⟨_,_,_,_,_,⟨rfl,rfl,rfl,v'*64+c-128,rfl,j+1,rfl,HN⟩,rfl,rfl,rfl,by congr 1;omega,by congr 1⟩
     case measure=>simp[intOf];omega
  ·have HF:=Lib.hid (hF.out.done hjk)
   go_wp2
   go_loop [12,13,14] (fun a b j=>∃ lo hi j':Nat,a=.int .i64 lo∧b=.int .i64 hi∧j=.int .i64 j'∧Hid (WidAt n0 k v' j' lo hi)) (fun _ _ j=>n0-(intOf j).toNat)
   case atStart=>exact⟨v',v',k,rfl,rfl,rfl,Lib.hid (WidAt.start n0 k v' hkn hvb)⟩
   case round =>
    obtain⟨lo,hi',jj,rfl,rfl,rfl,hW⟩:=hrel
    obtain⟨hlo,hhi⟩:=hW.out.le hk hn4
    rcases Nat.lt_or_ge jj n0 with hjn|hjn
    ·have HN:=Lib.hid (hW.out.next hjn)
     go_wp2
     go_round
     case rel=>exact⟨lo*64,hi'*64+63,jj+1,by go_num,by go_num,by go_num,HN⟩
     case measure=>simp[intOf];omega
    ·have HW:=Lib.hid (hW.out.done hjn)
     have hz:=hb.out
     rw[hr.out,HF.out] at hz
     simp only at hz
     rw[HW.out] at hz
     simp only[Prod.mk.injEq] at hz
     obtain⟨hz,rfl,rfl⟩:=hz
     have HZ:=Lib.hid hz
     clear hz
     go_wp2_with (go_at_call 181;refine(rleast_any n hn4 _).mono ?_;rintro e w' ⟨rfl,rfl⟩)
     all_goals
      go_ret3
      refine⟨ret_bii ?_ rfl rfl,rfl⟩
      rw[HZ.out,Bool.eq_iff_iff]
      simp
      omega
theorem rbegins_any (g off cap i k:Nat)(b:Bool)(n v:Nat)(L:List UInt8)(w:World)(hB:Hid (BytesAt w g off L))(hi:i<L.length)(hL:L.length≤140737488355328)(hk:1≤k)(hk4:k≤4)(hr:Hid (begins (natsU (L.drop i)) k=(b,n,v))) :
  Calls Tryz.prog 141 #[.slice (some ⟨g,off,none⟩) L.length cap,.int .i64 i,.int .i64 k] w fun e w'=>e=.returned (.tuple #[.bool b,.int .i64 n,.int .i64 v])∧w=w':=by
 obtain⟨h4,h256⟩:=size_le (L[i]'hi).toNat (L[i]'hi).toNat_lt
 obtain⟨n0,v0,hs⟩:∃ n0 v0,PU8.size (L[i]'hi).toNat=(n0,v0):=⟨_,_,rfl⟩
 rw[hs] at h4 h256
 by_cases hn:n0=0∨n0<k∨L.length<i+k
 ·have hz:begins (natsU (L.drop i)) k=(false,0,0):=by
   have hlen:(natsU (L.drop i)).length=L.length-i:=by unfold natsU;rw[List.length_map,List.length_drop]
   have hlen2:(natsU (L.drop (i+1))).length=L.length-(i+1):=by unfold natsU;rw[List.length_map,List.length_drop]
   rw[nats_at L i hi]
   unfold begins
   simp only[hs]
   rw[if_pos (by simp only[List.length_cons];omega)]
  have h2:=hr.out
  rw[hz] at h2
  simp only[Prod.mk.injEq] at h2
  obtain⟨rfl,rfl,rfl⟩:=h2
  exact rbegins_none g off cap i k n0 v0 L w hB hi hL hk hk4 (Lib.hid hs) h4 hn
 ·exact rbegins_read g off cap i k n0 v0 b n v L w hB hi hL hk hk4 (Lib.hid hs) h4 h256 (by omega) (by omega) (by omega) hr
open Go.RowKit PU8
theorem ret_iib {x y:Bool}{a b c d:Int}(h:a=c)(h2:b=d)(h0:x=y):Ending.returned (.tuple #[.int .i64 a,.int .i64 b,.bool x])=.returned (.tuple #[.int .i64 c,.int .i64 d,.bool y]):=by rw[h0,h,h2]
structure PieceAt (b:List Nat) (k m:Nat):Prop where
 lo:1≤k
 hi:k≤5
 out:pieceU b=pieceFrom b (5-k) k m
theorem PieceAt.hit {b:List Nat}{k m v:Nat}(h:PieceAt b k m)(hk:k<5)(hb:begins b k=(true,k,v)):pieceU b=(k,v,true):=by
 rw[h.out,show 5-k=(5-(k+1))+1 from by omega]
 unfold pieceFrom
 rw[hb,if_pos ⟨rfl,rfl⟩]
theorem PieceAt.some {b:List Nat}{k m n v:Nat}(h:PieceAt b k m)(hk:k<5)(hb:begins b k=(true,n,v))(hn:n≠k):PieceAt b (k+1) k:=by
 have hlo:=h.lo
 refine⟨by omega,by omega,?_⟩
 rw[h.out,show 5-k=(5-(k+1))+1 from by omega]
 conv=>lhs;unfold pieceFrom
 rw[hb,if_neg (fun hh=>hn hh.2),if_pos rfl]
theorem PieceAt.no {b:List Nat}{k m n v:Nat}(h:PieceAt b k m)(hk:k<5)(hb:begins b k=(false,n,v)):PieceAt b (k+1) m:=by
 have hlo:=h.lo
 refine⟨by omega,by omega,?_⟩
 rw[h.out,show 5-k=(5-(k+1))+1 from by omega]
 conv=>lhs;unfold pieceFrom
 rw[hb,if_neg (fun hh=>by cases hh.1),if_neg (by simp)]
theorem PieceAt.done {b:List Nat}{k m:Nat}(h:PieceAt b k m)(hk:5≤k):pieceU b=(m,0xfffd,false):=by
 rw[h.out,show 5-k=0 from by omega]
 rfl
theorem rpiece_any (g off cap i:Nat)(n v:Nat)(t:Bool)(L:List UInt8)(w:World)(hB:Hid (BytesAt w g off L))(hi:i<L.length)(hL:L.length≤140737488355328)(hr:Hid (pieceU (natsU (L.drop i))=(n,v,t))) :
  Calls Tryz.prog 82 #[.slice (some ⟨g,off,none⟩) L.length cap,.int .i64 i] w fun e w'=>e=.returned (.tuple #[.int .i64 n,.int .i64 v,.bool t])∧w=w':=by
 go_enter Tryz.func82,Tryz.ntmps82
 go_wp2
 go_loop [4,5,6,7,8] (fun r4 r5 r6 m k=>r4=.int .i64 0∧r5=.int .i64 0∧r6=.bool false∧∃ m' k':Nat,m=.int .i64 m'∧k=.int .i64 k'∧Hid (PieceAt (natsU (L.drop i)) k' m')) (fun _ _ _ _ k=>5-(intOf k).toNat)
 case atStart=>exact⟨rfl,rfl,rfl,1,1,rfl,rfl,Lib.hid ⟨Nat.le_refl _,by omega,rfl⟩⟩
 case round =>
  obtain⟨rfl,rfl,rfl,m,k,rfl,rfl,hP⟩:=hrel
  have hk1:=hP.out.lo
  have hk5:=hP.out.hi
  rcases Nat.lt_or_ge k 5 with hk|hk
  ·obtain⟨b0,n0,v0,hb⟩:∃ b0 n0 v0,begins (natsU (L.drop i)) k=(b0,n0,v0):=⟨_,_,_,rfl⟩
   have HB:=Lib.hid hb
   cases b0 with
   | true =>
    by_cases hn:n0=k
    ·subst hn
     have hz:=hP.out.hit hk hb
     rw[hr.out] at hz
     simp only[Prod.mk.injEq] at hz
     obtain⟨rfl,rfl,rfl⟩:=hz
     clear hb
     go_wp2_with (go_at_call 141;refine(rbegins_any g off cap i n true n v L _ hB hi hL (by omega) (by omega) HB).mono ?_;rintro e w' ⟨rfl,rfl⟩)
     go_ret3
     exact⟨rfl,rfl⟩
    ·have HN:=Lib.hid (hP.out.some hk hb hn)
     have hne:((n0:Int)==(k:Int))=false:=by rw[beq_eq_false_iff_ne];omega
     clear hb
     go_wp2_with (go_at_call 141;refine(rbegins_any g off cap i k true n0 v0 L _ hB hi hL (by omega) (by omega) HB).mono ?_;rintro e w' ⟨rfl,rfl⟩)
     go_round
     case rel=>exact⟨rfl,rfl,rfl,k,k+1,rfl,by go_num,HN⟩
     case measure=>simp[intOf];omega
   | false =>
    have HN:=Lib.hid (hP.out.no hk hb)
    clear hb
    go_wp2_with (go_at_call 141;refine(rbegins_any g off cap i k false n0 v0 L _ hB hi hL (by omega) (by omega) HB).mono ?_;rintro e w' ⟨rfl,rfl⟩)
    go_round
    case rel=>exact⟨rfl,rfl,rfl,m,k+1,rfl,by go_num,HN⟩
    case measure=>simp[intOf];omega
  ·have hz:=hP.out.done hk
   rw[hr.out] at hz
   simp only[Prod.mk.injEq] at hz
   obtain⟨rfl,rfl,rfl⟩:=hz
   go_wp2
   go_ret3
   exact⟨ret_iib rfl (by simp) rfl,rfl⟩
open Go.RowKit PU8
theorem byteCells_nats (l:List Nat)(h:∀ n∈l,n<256):Lib.byteCells (l.map UInt8.ofNat)=l.map (fun n=>Value.int .u8 (n:Nat)):=by
 unfold Lib.byteCells
 rw[List.map_map]
 apply List.map_congr_left
 intro n hn
 simp only[Function.comp_apply]
 rw[ofN n (h n hn)]
def NewRow (w:World)(n:Nat)(arr:Array Value)(e:Ending)(w':World):Prop:=e=.returned (.slice (some ⟨w.heap.size,0,none⟩) n n)∧w'=w.alloc (.cells arr 5)
theorem rbytes1 (c:Nat)(h:c<128)(w:World)(arr:Array Value)(ha:Hid (arr=#[.int .u8 c])):Calls Tryz.prog 132 #[.int .i64 c] w (NewRow w 1 arr):=by
 go_enter Tryz.func132,Tryz.ntmps132
 go_wp2
 go_ret
 exact⟨rfl,by rw[ha.out]⟩
theorem rbytes2 (c:Nat)(h1:128≤c)(h:c<2048)(w:World)(arr:Array Value)(ha:Hid (arr=#[.int .u8 (192+(c:Int) / 64),.int .u8 (128+(c:Int)%64)])):Calls Tryz.prog 132 #[.int .i64 c] w (NewRow w 2 arr):=by
 go_enter Tryz.func132,Tryz.ntmps132
 go_wp2
 go_ret
 exact⟨rfl,by rw[ha.out]⟩
theorem rbytes3 (c:Int)(h1:2048≤c)(h:c<65536)(w:World)(arr:Array Value)(ha:Hid (arr=#[.int .u8 (224+c / 4096),.int .u8 (128+c / 64%64),.int .u8 (128+c%64)])):Calls Tryz.prog 132 #[.int .i64 c] w (NewRow w 3 arr):=by
 go_enter Tryz.func132,Tryz.ntmps132
 go_wp2
 go_ret
 exact⟨rfl,by rw[ha.out]⟩
theorem rbytes4 (c:Int)(h1:65536≤c)(h:c≤1114111)(w:World)(arr:Array Value)(ha:Hid (arr=#[.int .u8 (240+c / 262144),.int .u8 (128+c / 4096%64),.int .u8 (128+c / 64%64),.int .u8 (128+c%64)])):Calls Tryz.prog 132 #[.int .i64 c] w (NewRow w 4 arr):=by
 go_enter Tryz.func132,Tryz.ntmps132
 go_wp2
 go_ret
 exact⟨rfl,by rw[ha.out]⟩
theorem rbytes_any (c:Nat)(h:c≤1114111)(w:World):Calls Tryz.prog 132 #[.int .i64 c] w (NewRow w (encU c).length (Lib.byteCells (encU c)).toArray):=by
 unfold encU
 by_cases h1:c<128
 ·have he:encN c=[c]:=by unfold encN;rw[if_pos h1]
  rw[he]
  refine rbytes1 c h1 w _ ?_
  show _=_
  rw[byteCells_nats _ (by simp;omega)]
  rfl
 by_cases h2:c<2048
 ·rw[enc_two c (by omega) h2]
  refine rbytes2 c (by omega) h2 w _ ?_
  show _=_
  rw[byteCells_nats _ (by simp;omega)]
  have E1:((192+c / 64:Nat):Int)=192+(c:Int) / 64:=by omega
  have E3:((128+c%64:Nat):Int)=128+(c:Int)%64:=by omega
  simp only[List.map_cons,List.map_nil,E1,E3]
 by_cases h3:c<65536
 ·rw[enc_three c (by omega) h3]
  refine rbytes3 c (by omega) (by omega) w _ ?_
  show _=_
  rw[byteCells_nats _ (by simp;omega)]
  have E1:((224+c / 4096:Nat):Int)=224+(c:Int) / 4096:=by omega
  have E2:((128+c / 64%64:Nat):Int)=128+(c:Int) / 64%64:=by omega
  have E3:((128+c%64:Nat):Int)=128+(c:Int)%64:=by omega
  simp only[List.map_cons,List.map_nil,E1,E2,E3]
 ·rw[enc_four c (by omega)]
  refine rbytes4 c (by omega) (by omega) w _ ?_
  show _=_
  rw[byteCells_nats _ (by simp;omega)]
  have E1:((240+c / 262144:Nat):Int)=240+(c:Int) / 262144:=by omega
  have E2:((128+c / 4096%64:Nat):Int)=128+(c:Int) / 4096%64:=by omega
  have E3:((128+c / 64%64:Nat):Int)=128+(c:Int) / 64%64:=by omega
  have E4:((128+c%64:Nat):Int)=128+(c:Int)%64:=by omega
  simp only[List.map_cons,List.map_nil,E1,E2,E3,E4]
open Go.RowKit PU8
def runeV (r:Nat):Value:=.int .i32 (r:Nat)
theorem Tryz.info21:(Tryz.prog.info? 21).map (fun i=>(i.zero,i.size,i.bytes))=some (some (.int .i32 0),1,4):=by kernel_rfl
theorem drop_ne {L:List UInt8}{k:Nat}(h:k<L.length):L.drop k≠[]:=by
 intro e
 have:=congrArg List.length e
 rw[List.length_drop] at this
 simp at this
 omega
structure RunAt (L:List UInt8) (k:Nat) (rs:List Nat):Prop where
 le:k≤L.length
 len:rs.length≤k
 out:rs++runesU (L.drop k)=runesU L
theorem RunAt.start (L:List UInt8):RunAt L 0 []:=⟨Nat.zero_le _,Nat.le_refl _,rfl⟩
theorem RunAt.next {L:List UInt8}{k:Nat}{rs:List Nat}{n v:Nat}{t:Bool}(h:RunAt L k rs)(hk:k<L.length)(hp:pieceU (natsU (L.drop k))=(n,v,t)):1≤n∧k+n≤L.length∧v≤1114111∧RunAt L (k+n) (rs++[v]):=by
 have hne:=drop_ne hk
 have h1:=piece_pos _ hne
 have h2:=piece_num _ hne
 have h3:=piece_val _ hne
 have h4:=look_le _ hne
 have h5:=runes_step _ hne
 rw[hp] at h1 h2 h3 h5
 simp only at h1 h2 h3 h5
 rw[List.length_drop] at h4
 refine⟨h1,by omega,h3.2,by omega,?_,?_⟩
 ·have:=h.len;simp;omega
 ·rw[List.append_assoc,List.singleton_append,← List.drop_drop,← h5]
  exact h.out
theorem RunAt.done {L:List UInt8}{k:Nat}{rs:List Nat}(h:RunAt L k rs)(hk:L.length≤k):rs=runesU L:=by
 have:=h.out
 rw[List.drop_eq_nil_of_le hk,runes_nil,List.append_nil] at this
 exact this
def RunesPost (L:List UInt8)(w:World)(e:Ending)(w':World):Prop:=∃ v,e=.returned v∧OwnV w.heap.size 21 1 v (runesU L).length ((runesU L).map runeV) w w'
theorem rrunes_any (g off cap:Nat)(L:List UInt8)(w:World)(hB:Hid (BytesAt w g off L))(hg:g<w.heap.size)(hL:L.length≤1000000000) :
  Calls Tryz.prog 78 #[.slice (some ⟨g,off,none⟩) L.length cap] w (RunesPost L w):=by
 obtain⟨i0,hi,hz0,hz1,hz2⟩:=info_parts Tryz.info21
 go_enter Tryz.func78,Tryz.ntmps78
 go_wp2
 go_loopw [3,4] (fun o i wx=>∃ (k:Nat) (rs:List Nat),i=.int .i64 k∧Hid (RunAt L k rs)∧Hid (OwnV w.heap.size 21 1 o rs.length (rs.map runeV) w wx)) (fun _ i _=>L.length-(intOf i).toNat)
 case atStart=>exact⟨0,[],rfl,Lib.hid (RunAt.start L),Lib.hid (OwnV.nil w 21 1)⟩
 case round =>
  obtain⟨k,rs,rfl,hR,hO⟩:=hrel
  have hk:=hR.out.le
  have hkl:=hR.out.len
  rcases Nat.lt_or_ge k L.length with hlt|hge
  ·have hBr:Hid (BytesAt wr g off L):=hB.out.below hO.out.bel hg
   obtain⟨n,v,t,hp⟩:∃ n v t,pieceU (natsU (L.drop k))=(n,v,t):=⟨_,_,_,rfl⟩
   obtain⟨hn1,hn2,hv,hN⟩:=hR.out.next hlt hp
   have HN:=Lib.hid hN
   have HP:=Lib.hid hp
   clear hp hN
   go_wp2_with fail
   refine(rpiece_any g off cap k n v t L wr hBr hlt (by omega) HP).mono ?_
   rintro e w' ⟨rfl,rfl⟩
   go_wp2_with (at_builtin;refine wpList_append_one (by rfl) _ _ 85 (by rfl) 21 i0 (.int .i32 0) 1 4 Tryz.underlying85 hi hz0 hz1 hz2 rfl (by decide) _ _ _ rfl hO.out #[.int .i32 v] rfl rfl rfl rfl (by omega) (by omega) ?_)
   intro v' w' hO' _
   go_wp2
   go_roundw
   case rel=>exact⟨k+n,rs++[v],by go_num,HN,Lib.hid (hO'.out.cast (by simp) (by simp[runeV]))⟩
   case measure=>simp[intOf];omega
  ·have HE:=Lib.hid (hR.out.done hge)
   go_wp2
   go_ret
   exact⟨_,rfl,by rw[← HE.out];exact hO.out⟩
open Go.RowKit PU8
structure EncAt (rs:List Nat) (k:Nat) (bs:List UInt8):Prop where
 le:k≤rs.length
 len:bs.length≤4*k
 out:bs=(rs.take k).flatMap encU
theorem EncAt.start (rs:List Nat):EncAt rs 0 []:=⟨Nat.zero_le _,Nat.le_refl _,rfl⟩
theorem EncAt.next {rs:List Nat}{k:Nat}{bs:List UInt8}(h:EncAt rs k bs)(hk:k<rs.length):EncAt rs (k+1) (bs++encU rs[k]):=by
 refine⟨hk,?_,?_⟩
 ·have:=h.len;have:=(enc_len rs[k]).2;simp;omega
 ·rw[List.take_succ_eq_append_getElem hk,List.flatMap_append,← h.out];simp
theorem isV_row (w:World)(cs:List Value)(E:TypeId):∀ j u,cs[j]?=some u→(w.alloc (.cells cs.toArray E)).cell? ((⟨w.heap.size,0,none⟩:Addr).add j)=some u:=by
 intro j u hj
 have hadd:(⟨w.heap.size,0,none⟩:Addr).add j=⟨w.heap.size,j,none⟩:=by unfold Addr.add;split<;>simp_all
 rw[hadd,cell_of_row _ _ j cs.toArray E (0,0) (heap_alloc_new w _)]
 simpa using hj
theorem byteCells_all (L:List UInt8):(Lib.byteCells L).all (fun u=>u.oneCell')=true:=List.all_eq_true.2 (byteCells_one L)
theorem rencode_any (rs:List Nat)(hv:Hid (∀ r∈rs,Val r))(hl:rs.length≤1000000000)(v:Value)(w:World)(hV:Hid (VecAt w v rs.length (rs.map runeV))) :
  Calls Tryz.prog 79 #[v] w fun e w'=>e=.returned (.string ⟨(rs.flatMap encU).toArray⟩)∧Below w.heap.size w w':=by
 obtain⟨i0,hi,hz0,hz1,hz2⟩:=info_parts Tryz.info5
 obtain⟨a,c,rfl,_⟩:=hV.out
 go_enter Tryz.func79,Tryz.ntmps79
 go_wp2
 go_loopw [3,4] (fun o i wx=>∃ (k:Nat) (bs:List UInt8),i=.int .i64 k∧Hid (EncAt rs k bs)∧Hid (OwnV w.heap.size 5 1 o bs.length (Lib.byteCells bs) w wx)) (fun _ i _=>rs.length-(intOf i).toNat)
 case atStart=>exact⟨0,[],rfl,Lib.hid (EncAt.start rs),Lib.hid (OwnV.nil w 5 1)⟩
 case round =>
  obtain⟨k,bs,rfl,hE,hO⟩:=hrel
  have hk:=hE.out.le
  have hkl:=hE.out.len
  rcases Nat.lt_or_ge k rs.length with hlt|hge
  ·obtain⟨g,off,c',hva,hcell⟩:=(hV.out.below hO.out.bel (Nat.le_refl _)).get k (by simpa using hlt)
   simp only[Value.slice.injEq,true_and] at hva
   obtain⟨rfl,rfl⟩:=hva
   rw[List.getElem_map] at hcell
   have hval:=hv.out rs[k] (List.getElem_mem hlt)
   have HN:=Lib.hid (hE.out.next hlt)
   have hle:=hval.2
   have HVAL:=Lib.hid hval
   have HEL:=Lib.hid (enc_len rs[k])
   generalize rs[k]=r at *
   unfold runeV at hcell
   clear hval
   have hel:=HEL.out.2
   go_wp2_with fail
   refine(rchar_yes r HVAL.out wr).mono ?_
   rintro e w' ⟨rfl,rfl⟩
   go_wp2_with fail
   refine(rbytes_any r hle wr).mono ?_
   rintro e w' ⟨rfl,rfl⟩
   go_wp2_with (at_builtin;refine wpList_append_vec (by rfl) _ _ 35 (by rfl) 5 i0 (.int .u8 0) 1 1 Tryz.underlying35 hi hz0 hz1 hz2 rfl (by decide) _ _ _ rfl (hO.out.alloc _) ⟨wr.heap.size,0,none⟩ (encU r).length (encU r).length (Lib.byteCells (encU r)) rfl (by rw[byteCells_len,Nat.mul_one]) (isV_row wr _ 5) (byteCells_all _) (by omega) (by omega) ?_)
   intro v' w' hO' _
   go_wp2
   go_roundw
   case rel=>exact⟨k+1,bs++encU r,by go_num,HN,Lib.hid (hO'.out.cast (by simp) (byteCells_append _ _))⟩
   case measure=>simp[intOf];omega
  ·have hk':k=rs.length:=by omega
   have hX:bs=rs.flatMap encU:=by
    have:=hE.out.out
    rw[hk',List.take_length] at this
    exact this
   have HX:=Lib.hid hX
   obtain⟨a1,c1,rfl,_,_⟩:=hO.out.slice
   have hcv:=run_convB (P:=Tryz.prog) wr 35 5 9 Tryz.underlying35 Tryz.underlying5 Tryz.underlying9 a1 bs bs.length c1 rfl (hO.out.isB rfl)
   clear hX
   go_wp2
   go_ret
   refine⟨?_,hO.out.bel⟩
   rw[HX.out]
   rfl
open Go.RowKit PU8
structure KeepAt (rs:List Nat) (k:Nat) (ks:List Nat):Prop where
 le:k≤rs.length
 len:ks.length≤k
 out:ks=(rs.take k).filter keepR
theorem KeepAt.start (rs:List Nat):KeepAt rs 0 []:=⟨Nat.zero_le _,Nat.le_refl _,rfl⟩
theorem KeepAt.yes {rs:List Nat}{k:Nat}{ks:List Nat}(h:KeepAt rs k ks)(hk:k<rs.length)(hr:keepR rs[k]=true):KeepAt rs (k+1) (ks++[rs[k]]):=by
 refine⟨hk,?_,?_⟩
 ·have:=h.len;simp;omega
 ·rw[List.take_succ_eq_append_getElem hk,List.filter_append,← h.out];simp[hr]
theorem KeepAt.no {rs:List Nat}{k:Nat}{ks:List Nat}(h:KeepAt rs k ks)(hk:k<rs.length)(hr:keepR rs[k]=false):KeepAt rs (k+1) ks:=by
 refine⟨hk,?_,?_⟩
 ·have:=h.len;omega
 ·rw[List.take_succ_eq_append_getElem hk,List.filter_append,← h.out];simp[hr]
theorem runes_len (L:List UInt8):(runesU L).length≤L.length:=by
 have h:∀ (n:Nat) (l:List UInt8),l.length≤n→(runesU l).length≤l.length:=by
  intro n
  induction n with
  | zero=>intro l hl;rw[List.eq_nil_of_length_eq_zero (by omega:l.length=0)];exact Nat.le_refl _
  | succ n ih =>
   intro l hl
   by_cases hne:l=[]
   ·subst hne;exact Nat.le_refl _
   ·rw[runes_step l hne,List.length_cons]
    have h1:=piece_pos l hne
    have h2:=ih (l.drop (pieceU (natsU l)).1) (by rw[List.length_drop];omega)
    rw[List.length_drop] at h2
    have:1≤l.length:=by rcases l with _|⟨_,_⟩;exact absurd rfl hne;simp
    omega
 exact h L.length L (Nat.le_refl _)
theorem rtext_any (s:ByteArray)(hs:s.size≤1000000000)(w:World):Calls Tryz.prog 33 #[.string s] w fun e w'=>e=.returned (.string ⟨(textL s.data.toList).toArray⟩)∧Below w.heap.size w w':=by
 obtain⟨i0,hi,hz0,hz1,hz2⟩:=info_parts Tryz.info21
 obtain⟨cap,W,hrun,hb,hby,hcap,hsz⟩:=conv_bytes s w
 have hsl:s.data.toList.length=s.size:=rfl
 have hrl:=runes_len s.data.toList
 have hrv:=runes_val s.data.toList.length s.data.toList (Nat.le_refl _)
 have C:=rrunes_any w.heap.size 0 cap s.data.toList W (Lib.hid hby) hsz (by omega)
 rw[hsl] at C hrl
 have hT:textL s.data.toList=((runesU s.data.toList).filter keepR).flatMap encU:=rfl
 unfold RunesPost at C
 rw[hT]
 generalize runesU s.data.toList=rs at C hrl hrv
 have HB:=Lib.hid hb
 have HC:=Lib.hid C
 have HV:=Lib.hid hrv
 clear hb hby hcap hsz C hrv hsl hT
 go_enter Tryz.func33,Tryz.ntmps33
 go_wp2_with fail
 refine HC.out.mono ?_
 rintro e W1 ⟨v,rfl,hO1⟩
 have HB1:=Lib.hid (HB.out.trans (hO1.bel.mono HB.out.size))
 have HV1:=Lib.hid hO1.vec
 clear hO1
 obtain⟨a,c,rfl,_⟩:=HV1.out
 go_wp2
 go_loopw [4,5] (fun o i wx=>∃ (k:Nat) (ks:List Nat),i=.int .i64 k∧Hid (KeepAt rs k ks)∧Hid (OwnV W1.heap.size 21 1 o ks.length (ks.map runeV) W1 wx)) (fun _ i _=>rs.length-(intOf i).toNat)
 case atStart=>exact⟨0,[],rfl,Lib.hid (KeepAt.start rs),Lib.hid (OwnV.nil W1 21 1)⟩
 case round =>
  obtain⟨k,ks,rfl,hK,hO⟩:=hrel
  have hk:=hK.out.le
  have hkl:=hK.out.len
  rcases Nat.lt_or_ge k rs.length with hlt|hge
  ·obtain⟨g,off,c',hva,hcell⟩:=(HV1.out.below hO.out.bel (Nat.le_refl _)).get k (by simpa using hlt)
   simp only[Value.slice.injEq,true_and] at hva
   obtain⟨rfl,rfl⟩:=hva
   rw[List.getElem_map] at hcell
   have hle:=(HV.out rs[k] (List.getElem_mem hlt)).2
   have HY:=Lib.hid (hK.out.yes hlt)
   have HN:=Lib.hid (hK.out.no hlt)
   generalize rs[k]=r at *
   unfold runeV at hcell
   have hcases:r<9∨r=9∨r=10∨(10<r∧r<32)∨(32≤r∧r<127)∨(127≤r∧r≤159)∨159<r:=by omega
   rcases hcases with h|rfl|rfl|⟨h,h2⟩|⟨h,h2⟩|⟨h,h2⟩|h
   ·have HF:=Lib.hid (HN.out (by unfold keepR;simp;omega))
    have t1:((r:Int)==9)=false:=by rw[beq_eq_false_iff_ne];omega
    have t2:((r:Int)==10)=false:=by rw[beq_eq_false_iff_ne];omega
    go_wp2
    go_roundw
    case rel=>exact⟨k+1,ks,by go_num,HF,hO⟩
    case measure=>simp[intOf];omega
   ·have HF:=Lib.hid (HY.out rfl)
    go_wp2_with (at_builtin;refine wpList_append_one (by rfl) _ _ 85 (by rfl) 21 i0 (.int .i32 0) 1 4 Tryz.underlying85 hi hz0 hz1 hz2 rfl (by decide) _ _ _ rfl hO.out #[.int .i32 (9:Nat)] rfl rfl rfl rfl (by omega) (by omega) ?_)
    intro v' w' hO' _
    go_wp2
    go_roundw
    case rel=>exact⟨k+1,ks++[9],by go_num,HF,Lib.hid (hO'.out.cast (by simp) (by simp[runeV]))⟩
    case measure=>simp[intOf];omega
   ·have HF:=Lib.hid (HY.out rfl)
    go_wp2_with (at_builtin;refine wpList_append_one (by rfl) _ _ 85 (by rfl) 21 i0 (.int .i32 0) 1 4 Tryz.underlying85 hi hz0 hz1 hz2 rfl (by decide) _ _ _ rfl hO.out #[.int .i32 (10:Nat)] rfl rfl rfl rfl (by omega) (by omega) ?_)
    intro v' w' hO' _
    go_wp2
    go_roundw
    case rel=>exact⟨k+1,ks++[10],by go_num,HF,Lib.hid (hO'.out.cast (by simp) (by simp[runeV]))⟩
    case measure=>simp[intOf];omega
   ·have HF:=Lib.hid (HN.out (by unfold keepR;simp;omega))
    have t1:((r:Int)==9)=false:=by rw[beq_eq_false_iff_ne];omega
    have t2:((r:Int)==10)=false:=by rw[beq_eq_false_iff_ne];omega
    go_wp2
    go_roundw
    case rel=>exact⟨k+1,ks,by go_num,HF,hO⟩
    case measure=>simp[intOf];omega
   ·have HF:=Lib.hid (HY.out (by unfold keepR;simp;omega))
    have t1:((r:Int)==9)=false:=by rw[beq_eq_false_iff_ne];omega
    have t2:((r:Int)==10)=false:=by rw[beq_eq_false_iff_ne];omega
    go_wp2_with (at_builtin;refine wpList_append_one (by rfl) _ _ 85 (by rfl) 21 i0 (.int .i32 0) 1 4 Tryz.underlying85 hi hz0 hz1 hz2 rfl (by decide) _ _ _ rfl hO.out #[.int .i32 r] rfl rfl rfl rfl (by omega) (by omega) ?_)
    intro v' w' hO' _
    go_wp2
    go_roundw
    case rel=>exact⟨k+1,ks++[r],by go_num,HF,Lib.hid (hO'.out.cast (by simp) (by simp[runeV]))⟩
    case measure=>simp[intOf];omega
   ·have HF:=Lib.hid (HN.out (by unfold keepR;simp;omega))
    have t1:((r:Int)==9)=false:=by rw[beq_eq_false_iff_ne];omega
    have t2:((r:Int)==10)=false:=by rw[beq_eq_false_iff_ne];omega
    go_wp2
    go_roundw
    case rel=>exact⟨k+1,ks,by go_num,HF,hO⟩
    case measure=>simp[intOf];omega
   ·have HF:=Lib.hid (HY.out (by unfold keepR;simp;omega))
    have t1:((r:Int)==9)=false:=by rw[beq_eq_false_iff_ne];omega
    have t2:((r:Int)==10)=false:=by rw[beq_eq_false_iff_ne];omega
    go_wp2_with (at_builtin;refine wpList_append_one (by rfl) _ _ 85 (by rfl) 21 i0 (.int .i32 0) 1 4 Tryz.underlying85 hi hz0 hz1 hz2 rfl (by decide) _ _ _ rfl hO.out #[.int .i32 r] rfl rfl rfl rfl (by omega) (by omega) ?_)
    intro v' w' hO' _
    go_wp2
    go_roundw
    case rel=>exact⟨k+1,ks++[r],by go_num,HF,Lib.hid (hO'.out.cast (by simp) (by simp[runeV]))⟩
    case measure=>simp[intOf];omega
  ·have hX:ks=rs.filter keepR:=by
    have:=hK.out.out
    rw[show k=rs.length by omega,List.take_length] at this
    exact this
   have hkv:∀ r∈ks,Val r:=fun r hr=>by rw[hX] at hr;exact HV.out r (List.mem_filter.1 hr).1
   have HX:=Lib.hid hX
   have HKV:=Lib.hid hkv
   have HW:=Lib.hid hO.out.vec
   have HB2:=Lib.hid (HB1.out.trans (hO.out.bel.mono HB1.out.size))
   clear hX hkv
   go_wp2_with fail
   refine(rencode_any ks HKV (by omega) _ wr HW).mono ?_
   rintro e W2 ⟨rfl,B2⟩
   have HB3:=Lib.hid (HB2.out.trans (B2.mono HB2.out.size))
   clear B2
   go_wp2
   go_ret
   refine⟨?_,HB3.out⟩
   rw[HX.out]
   rfl
end Go.Proofs.YtcfgbdhpcboikaaGreatDoor
