/-
utf8.look: what it answers of the bytes at a place (printed by wip/gen/lookw.py).
-/
import Derived.Test.YtcfgbdhpcboikaaGreatDoorKinds
namespace Go.Proofs.YtcfgbdhpcboikaaGreatDoor
set_option maxHeartbeats 8000000
set_option maxRecDepth 100000
open Go.RowKit PU8
def bV (w:H)(g off:Nat)(L:U):Prop:=∀j (h:j<L.length),w.cell? ⟨g,off+j,none⟩=some (.int .u8 (L[j].toNat:Nat))
theorem wH (L:U)(k:Nat)(h:k<L.length):aI (L.drop k)=L[k].toNat :: aI (L.drop (k+1)):=by
 rw[dt h];rfl
theorem aJW (L:U)(k:Nat)(h:L.length<=k):aI (L.drop k)=[]:=by
 rw[dy h];rfl
def iD (L:U)(i need m:Nat)(t:Bool)(n lo hi:Nat):Prop :=
 1<=n/\n<=need+1/\i+n<=L.length/\contU (need+1-n) lo hi n (aI (L.drop (i+n)))=(m,t)
theorem iD.stop {L:U}{i b m:Nat}{t:Bool}{n lo hi:Nat}(h:iD L i b m t n lo hi)(a:n=b+1):m=n/\t=true:=by
 obtain⟨_,_,_,h⟩:=h;rw[a,kx]at h;unfold contU at h;cases h;exact⟨a.symm,rfl⟩
theorem iD.short {L:U}{i a m:Nat}{t:Bool}{n lo hi:Nat}(h:iD L i a m t n lo hi)(d:n<=a)(c:i+n=L.length):m=n/\t=false:=by
 obtain⟨_,_,_,h⟩:=h;obtain⟨k,b⟩:∃k,a+1-n=k+1:=⟨a-n,by omega⟩;rw[b,aJW _ _ (by omega)]at h;unfold contU at h;cases h;exact⟨rfl,rfl⟩
theorem iD.bad {L:U}{i a m:Nat}{t:Bool}{n lo hi:Nat}(h:iD L i a m t n lo hi)(e:n<=a)(c:i+n<L.length)(b:L[i+n].toNat<lo\/hi<L[i+n].toNat):m=n/\t=false:=by
 obtain⟨_,_,_,h⟩:=h;obtain⟨k,d⟩:∃k,a+1-n=k+1:=⟨a-n,by omega⟩;rw[d,wH _ _ c]at h;unfold contU at h;rw[af b]at h;cases h;exact⟨rfl,rfl⟩
theorem iD.next {L:U}{i a m:Nat}{t:Bool}{n lo hi:Nat}(h:iD L i a m t n lo hi)(f:n<=a)(c:i+n<L.length)(b:¬(L[i+n].toNat<lo\/hi<L[i+n].toNat)):iD L i a m t (n+1) 128 191:=by
 obtain⟨e,_,_,h⟩:=h;obtain⟨k,d⟩:∃k,a+1-n=k+1:=⟨a-n,by omega⟩;rw[d,wH _ _ c]at h;unfold contU at h;rw[ae b]at h;refine⟨by omega,by omega,by omega,?_⟩;rw[show a+1-(n+1)=k by omega];exact h
theorem lE (g u cap i m c N q b:Nat)(t:Bool)(L:U)(w:H)(Q:G (bV w g u L))(hi:i<L.length)(hL:L.length<=140737488355328)(S:w.cell? ⟨g,u+i,none⟩=some (.int .u8 (c:Nat)))(ac:194<=c)
  (T:c<224/\N=1/\q=128/\b=191\/c=224/\N=2/\q=160/\b=191\/c=237/\N=2/\q=128/\b=159\/(225<=c/\c<240/\c≠237)/\N=2/\q=128/\b=191\/c=240/\N=3/\q=144/\b=191\/(241<=c/\c<244)/\N=3/\q=128/\b=191\/c=244/\N=3/\q=128/\b=143)
  (R:G (iD L i N m t 1 q b)):Y 129 #[.slice (some ⟨g,u,none⟩) L.length cap,.int .i64 i] w fun e w'=>e=.returned (.tuple #[.int .i64 m,.bool t])/\w=w':=by
 have X:decide ((c:Int)<128)=false:=by simp;omega
 have aa:decide ((c:Int)<194)=false:=by simp;omega
 rcases T with⟨p,f,rfl,rfl⟩|⟨p,f,rfl,rfl⟩|⟨p,f,rfl,rfl⟩|⟨p,f,rfl,rfl⟩|⟨p,f,rfl,rfl⟩|⟨p,f,rfl,rfl⟩|⟨p,f,rfl,rfl⟩
 all_goals (first|have x:decide ((c:Int)<224)=true:=(by simp;omega)|have x:decide ((c:Int)<224)=false:=(by simp;omega)|skip)
 all_goals (first|have A:decide ((c:Int)<240)=true:=(by simp;omega)|have A:decide ((c:Int)<240)=false:=(by simp;omega)|skip)
 all_goals (first|have C:decide ((c:Int)<244)=true:=(by simp;omega)|have C:decide ((c:Int)<244)=false:=(by simp;omega)|skip)
 all_goals (first|have y:((c:Int)==224)=true:=(by simp;omega)|have y:((c:Int)==224)=false:=(by simp;omega)|skip)
 all_goals (first|have z:((c:Int)==237)=true:=(by simp;omega)|have z:((c:Int)==237)=false:=(by simp;omega)|skip)
 all_goals (first|have B:((c:Int)==240)=true:=(by simp;omega)|have B:((c:Int)==240)=false:=(by simp;omega)|skip)
 all_goals (first|have D:((c:Int)==244)=true:=(by simp;omega)|have D:((c:Int)==244)=false:=(by simp;omega)|skip)
 all_goals (have r:=Z f)
 all_goals (have ab:=Z p)
 all_goals clear f p
 all_goals (go_enter Tryz.func129,Tryz.ntmps129)
 all_goals go_wp2
 all_goals clear S X aa
 all_goals ((try clear x);(try clear A);(try clear C);(try clear y);(try clear z);(try clear B);(try clear D))
 all_goals (
  go_loop [4,5,8,9,10] (fun r4 r5 l h n=>r4=.int .i64 0/\r5=.bool false/\∃K lo hi:Nat,n=.int .i64 K/\l=.int .u8 lo/\h=.int .u8 hi/\G (iD L i N m t K lo hi)) (fun _ _ _ _ n=>N+1-(intOf n).toNat)
  case atStart=>exact⟨rfl,rfl,1,_,_,rfl,rfl,rfl,R⟩
  case round =>
   obtain⟨rfl,rfl,n,lo,hi',rfl,rfl,rfl,j⟩:=hrel;have n1:1<=n:=j.o.1;have n2:n<=3+1:=by have M:=j.o.2.1;have P:=r.o;omega
   have n3:i+n<=L.length:=j.o.2.2.1;rcases ak N n with hn|hn
   ·have E:=j.o.stop (by have M:=j.o.2.1;omega);have a:=Z E;clear E;rw[r.o]at hn
    go_wp2
    go_ret2;refine⟨?_,rfl⟩;rw[a.o.1,a.o.2];rfl
   ·rcases ak (i+n) L.length with s|an
    ·have F:=Q.o (i+n) s;by_cases k:L[i+n].toNat<lo\/hi'<L[i+n].toNat
     ·have a:=Z (j.o.bad hn s k);rw[r.o]at hn
      have v:=Z k;generalize L[i+n].toNat=d at F k;have W:((i:Int)+(n:Int)==(L.length:Int))=false:=by rw[ai];omega
      rcases ak d lo with hd|hd
      ·clear k v;go_wp2
       go_ret2;refine⟨?_,rfl⟩;rw[a.o.1,a.o.2];rfl
      ·have V:hi'<d:=by omega
       clear k v;go_wp2
       go_ret2;refine⟨?_,rfl⟩;rw[a.o.1,a.o.2];rfl
     ·have a:=Z (j.o.next hn s k);rw[r.o]at hn
      generalize L[i+n].toNat=d at F k;have W:((i:Int)+(n:Int)==(L.length:Int))=false:=by rw[ai];omega
      have ad:lo<=d:=by omega
      have V:d<=hi':=by omega
      clear k;go_wp2
      go_round
      case rel=>exact⟨rfl,rfl,n+1,128,191,by go_num,rfl,rfl,a⟩
      case measure=>have P:=r.o;simp[intOf];omega
    ·have J:i+n=L.length:=by omega
     have a:=Z (j.o.short hn J);rw[r.o]at hn
     have al:((i:Int)+(n:Int)==(L.length:Int))=true:=by rw[cn];omega
     clear J;go_wp2
     go_ret2;refine⟨?_,rfl⟩;rw[a.o.1,a.o.2];rfl)
open Go.RowKit PU8
theorem aMh (g b cap i c:Nat)(L:U)(w:H)(hi:i<L.length)(_hL:L.length<=140737488355328)(f:w.cell? ⟨g,b+i,none⟩=some (.int .u8 (c:Nat)))(a:c<128) :
  Y 129 #[.slice (some ⟨g,b,none⟩) L.length cap,.int .i64 i] w fun e w'=>e=.returned (.tuple #[.int .i64 1,.bool true])/\w=w':=by
 have h:decide ((c:Int)<128)=true:=by simp;omega
 have d:=Z a;clear a;go_enter Tryz.func129,Tryz.ntmps129
 go_wp2
 go_ret2;exact⟨rfl,rfl⟩
theorem aJT (g b cap i c:Nat)(L:U)(w:H)(hi:i<L.length)(_hL:L.length<=140737488355328)(f:w.cell? ⟨g,b+i,none⟩=some (.int .u8 (c:Nat)))(a:128<=c/\c<194) :
  Y 129 #[.slice (some ⟨g,b,none⟩) L.length cap,.int .i64 i] w fun e w'=>e=.returned (.tuple #[.int .i64 0,.bool false])/\w=w':=by
 have h:decide ((c:Int)<128)=false:=by simp;omega
 have j:decide ((c:Int)<194)=true:=by simp;omega
 have d:=Z a;clear a;go_enter Tryz.func129,Tryz.ntmps129
 go_wp2
 go_ret2;exact⟨rfl,rfl⟩
theorem aJS (g b cap i c:Nat)(L:U)(w:H)(hi:i<L.length)(_hL:L.length<=140737488355328)(f:w.cell? ⟨g,b+i,none⟩=some (.int .u8 (c:Nat)))(a:244<c) :
  Y 129 #[.slice (some ⟨g,b,none⟩) L.length cap,.int .i64 i] w fun e w'=>e=.returned (.tuple #[.int .i64 0,.bool false])/\w=w':=by
 have h:decide ((c:Int)<128)=false:=by simp;omega
 have j:decide ((c:Int)<194)=false:=by simp;omega
 have k:decide ((c:Int)<224)=false:=by simp;omega
 have l:decide ((c:Int)<240)=false:=by simp;omega
 have m:decide ((c:Int)<244)=false:=by simp;omega
 have n:((c:Int)==224)=false:=by simp;omega
 have o:((c:Int)==237)=false:=by simp;omega
 have p:((c:Int)==240)=false:=by simp;omega
 have q:((c:Int)==244)=false:=by simp;omega
 have d:=Z a;clear a;go_enter Tryz.func129,Tryz.ntmps129
 go_wp2
 go_ret2;exact⟨rfl,rfl⟩
theorem fU (L:U)(i a lo hi m:Nat)(t:Bool)(h:i<L.length)(b:contU a lo hi 1 (aI (L.drop (i+1)))=(m,t)):iD L i a m t 1 lo hi :=
 ⟨ah _,by omega,h,b⟩
theorem aFi (g a cap i m:Nat)(t:Bool)(L:U)(w:H)(f:G (bV w g a L))(hi:i<L.length)(d:L.length<=140737488355328)(hr:G (lookU (aI (L.drop i))=(m,t))) :
  Y 129 #[.slice (some ⟨g,a,none⟩) L.length cap,.int .i64 i] w fun e w'=>e=.returned (.tuple #[.int .i64 m,.bool t])/\w=w':=by
 have b:=f.o i hi;have h:=hr.o;rw[wH _ _ hi,look_cons]at h
 have v:=L[i].toNat_lt;generalize L[i].toNat=c at b h v;by_cases k:c<128
 ·rw[af k]at h
  cases h;exact aMh g a cap i c L w hi d b k
 rw[ae k]at h
 by_cases l:c<194
 ·rw[af l]at h
  cases h;exact aJT g a cap i c L w hi d b ⟨by omega,l⟩
 rw[ae l]at h
 by_cases n:c<224
 ·rw[af n]at h
  exact lE g a cap i m c 1 128 191 t L w f hi d b (by omega) (.inl ⟨n,rfl,rfl,rfl⟩) (Z (fU L i _ _ _ m t hi h))
 rw[ae n]at h
 by_cases p:c=224
 ·rw[af p]at h
  exact lE g a cap i m c 2 160 191 t L w f hi d b (by omega) (.inr (.inl ⟨p,rfl,rfl,rfl⟩)) (Z (fU L i _ _ _ m t hi h))
 rw[ae p]at h
 by_cases j:c=237
 ·rw[af j]at h
  exact lE g a cap i m c 2 128 159 t L w f hi d b (by omega) (.inr (.inr (.inl ⟨j,rfl,rfl,rfl⟩))) (Z (fU L i _ _ _ m t hi h))
 rw[ae j]at h
 by_cases q:c<240
 ·rw[af q]at h
  exact lE g a cap i m c 2 128 191 t L w f hi d b (by omega) (.inr (.inr (.inr (.inl ⟨⟨by omega,q,j⟩,rfl,rfl,rfl⟩)))) (Z (fU L i _ _ _ m t hi h))
 rw[ae q]at h
 by_cases r:c=240
 ·rw[af r]at h
  exact lE g a cap i m c 3 144 191 t L w f hi d b (by omega) (.inr (.inr (.inr (.inr (.inl ⟨r,rfl,rfl,rfl⟩))))) (Z (fU L i _ _ _ m t hi h))
 rw[ae r]at h
 by_cases s:c<244
 ·rw[af s]at h
  exact lE g a cap i m c 3 128 191 t L w f hi d b (by omega) (.inr (.inr (.inr (.inr (.inr (.inl ⟨⟨by omega,s⟩,rfl,rfl,rfl⟩)))))) (Z (fU L i _ _ _ m t hi h))
 rw[ae s]at h
 by_cases u:c=244
 ·rw[af u]at h
  exact lE g a cap i m c 3 128 143 t L w f hi d b (by omega) (.inr (.inr (.inr (.inr (.inr (.inr ⟨u,rfl,rfl,rfl⟩)))))) (Z (fU L i _ _ _ m t hi h))
 rw[ae u]at h
 cases h;exact aJS g a cap i c L w hi d b (by omega)
open Go.RowKit
theorem Tryz.info5:(Tryz.prog.info? 5).map (fun i=>(i.zero,i.size,i.bytes))=some (some (.int .u8 0),1,1):=by kernel_rfl
theorem bV.below {w w':H}{g a B:Nat}{L:U}(h:bV w g a L)(b:Below B w w')(c:g<B):bV w' g a L:=by
 intro j d;rw[b.cell (p:=⟨g,a+j,none⟩) c];exact h j d
theorem bV.news {w:H}{g off:Nat}{L:U}(h:bV w g off L):∀j u,(Lib.byteCells L)[j]?=some u->w.cell? ((⟨g,off,none⟩:Addr).add j)=some u:=by
 intro j u a;unfold Lib.byteCells at a;rw[gk]at a;rcases ak j L.length with b|b;{rw[bc b]at a;simp at a;have c:(⟨g,off,none⟩:Addr).add j=⟨g,off+j,none⟩:=by{unfold Addr.add;split<;>simp_all};rw[c,h j b,a]};{rw[ew b]at a;simp at a}
theorem wW (L:U):∀u∈Lib.byteCells L,u.oneCell'=true:=by
 intro u a;unfold Lib.byteCells at a;obtain⟨b,_,rfl⟩:=g9.1 a;rfl
theorem kG (L:U):(Lib.byteCells L).length=L.length:=by unfold Lib.byteCells;simp
theorem aPD (B b:Nat)(a:List Value)(g j cap n:Nat)(L:U)(F:L.length=n)(w:H)(h:Lib.IsBuilderF 112 5 B b a w)(M:G (bV w g j L))(A:g<B)(hlen:a.length+L.length<=140737488355328)(aa:B<=w.heap.size) :
  Y 130 #[.pointer (some ⟨b,0,none⟩),.slice (some ⟨g,j,none⟩) n cap] w fun e w'=>e=.returned (.tuple #[.int .i64 n,.nilIface])/\(Lib.BuilderAtF 112 5 B b (.pointer (some ⟨b,0,none⟩)) (a++Lib.byteCells L) w'/\Below B w w'/\Lib.OthersKept 5 (some b) w w'):=by
 subst F;obtain⟨R,hi,N,P,Q⟩:=cx Tryz.info5;go_enter Tryz.func130,Tryz.ntmps130
 go_wp2_with (go_at_call 156;refine(Tryz.Builder_copyCheck_k B b a _ h).mono ?_)
 rintro e c ⟨rfl,z,d,D⟩;obtain⟨u,v,i,r,J⟩:=z;have K:G (bV c g j L):=M.o.below d A;have S:c.cell? ⟨b,0,none⟩=some (.pointer (some ⟨b,0,none⟩)):=by rw[p8 i];rfl
 have c1:c.cell? ⟨b,1,none⟩=some v:=by rw[p8 i];rfl
 go_wp2_with (at_builtin;refine wpList_append_ownF _ rfl _ _ 35 rfl B 5 R (.int .u8 0) 1 1 Tryz.underlying35 hi N P Q rfl (by decide) _ _ _ rfl r ⟨g,j,none⟩ L.length cap (Lib.byteCells L) rfl ?c1 K.o.news (wW L) ?c3 ?c4 ?c5 ?_)
 case c1=>rw[kG,df]
 case c3=>unfold maxLen;omega
 case c4=>omega
 case c5=>have:=d.size;omega
 intro v' l x q _;have E:b<c.heap.size:=by
  rcases ak b c.heap.size with m|m
  ·exact m
  ·simp[Array.getElem?_eq_none m]at i
 have f:l.heap[b]?=some (.cells #[.pointer (some ⟨b,0,none⟩),v] 112 (0,0)):=by
  rw[q.block b E (fun e=>J e.symm)];exact i
 have X:l.cell? ⟨b,0,none⟩=some (.pointer (some ⟨b,0,none⟩)):=by rw[p8 f];rfl
 have d1:l.cell? ⟨b,1,none⟩=some v:=by rw[p8 f];rfl
 have f1:l.frozen? ⟨b,1,none⟩=false:=Lib.frozen_of_heap f 1;obtain⟨t,y,V,rfl⟩:∃t y cap,v'=.slice t y cap:=by
  rcases x.2 with⟨s,_⟩|⟨g,cap,W,fz,s,_⟩
  ·exact⟨_,_,_,s⟩
  ·exact⟨_,_,_,s⟩
 go_wp2
 go_ret2;refine⟨rfl,?_,?_,(D.grown q (Lib.ownsRowF_kind r)).setCell ⟨b,1,none⟩ rfl _⟩
 ·exact Lib.BuilderAtF.put (T:=112) (e:=5) u f (bs':=a++Lib.byteCells L) (by simpa [kG]using x) (by decide)
 ·exact(d.grown q (by have:=d.size;omega) (fun k C=>(r.lt k C).1)).setCell (p:=⟨b,1,none⟩) u _
open Go.RowKit PU8
theorem aFW (g a cap k h:Nat)(n:Nat)(e:k<cap)(b:k<=h)(c:h<=cap)(w:H) :
  (Instr.slice 35 (.slice (some ⟨g,a,none⟩) n cap) (some (.int .i64 k)) (some (.int .i64 h)) none).run Tryz.prog w=.ok (.slice (some ⟨g,a+k,none⟩) (h-k) (cap-k)) w:=by
 rw[wN 35 5 Tryz.underlying35 (by kernel_rfl) w (some ⟨g,a,none⟩) n cap k h b c,ae (by omega)];have d:(⟨g,a,none⟩:Addr).add k=⟨g,a+k,none⟩:=by{unfold Addr.add;split<;>simp_all};simp[d]
theorem bV.cut {w:H}{g a:Nat}{L:U}(h:bV w g a L)(k m:Nat):bV w g (a+k) ((L.drop k).take m):=by
 intro j b;rw[bu,bm]at b;rw[jg,h (k+j) (by omega)];simp
theorem aKz:Lib.runeCells 65533=Lib.byteCells [239,191,189]:=by
 rw[<-Lib.byteCells_encodeRune];have:Lib.encodeRune 65533=[239,191,189]:=by{decide};rw[this]
theorem nG (a b:U):Lib.byteCells a++Lib.byteCells b=Lib.byteCells (a++b):=by simp[Lib.byteCells]
theorem aG9 (l:U)(h:l≠[]):(lookU (aI l)).1<=l.length:=by
 have a:∀b lo hi n (r:List Nat),(contU b lo hi n r).1<=n+r.length:=by{intro b;induction b with|zero=>{intro lo hi n r;simp[contU]}|succ k ih=>{intro lo hi n r;cases r with|nil=>simp[contU]|cons c r=>{unfold contU;split;{simp};{have:=ih 0x80 0xbf (n+1) r;simp only[bv];omega}}}};have d:(aI l).length=l.length:=by unfold aI;simp
 rw[<-d];cases hb:aI l with
 | nil=>exact absurd hb (nQ h)
 | cons c r =>
  rw[look_cons];simp only[bv];repeat' split
  all_goals first
   | (have:=a 1 0x80 0xbf 1 r;omega)
   | (have:=a 2 0xa0 0xbf 1 r;omega)
   | (have:=a 2 0x80 0x9f 1 r;omega)
   | (have:=a 2 0x80 0xbf 1 r;omega)
   | (have:=a 3 0x90 0xbf 1 r;omega)
   | (have:=a 3 0x80 0xbf 1 r;omega)
   | (have:=a 3 0x80 0x8f 1 r;omega)
   | (simp only;omega)
structure aBp (L:U) (B k:Nat) (w wx:H) (o':U):Prop where
 le:k<=L.length
 bld:Lib.IsBuilderF 112 5 B B (Lib.byteCells o') wx
 bel:Below B w wx
 o:o'++mJ (L.drop k)=mJ L
theorem aBp.len {L:U}{B k:Nat}{w wx:H}{o:U}(h:aBp L B k w wx o):o.length<=3*L.length:=by
 have:=az List.length h.o;rw[ax]at this;have a:=aCK L.length L (ah _);omega
theorem aHH (g c cap:Nat)(L:U)(D:L.length<=1000000000)(E:L.length<=cap)(w:H)(B:G (bV w g c L))(s:g<w.heap.size) :
  Y 77 #[.slice (some ⟨g,c,none⟩) L.length cap] w (O (.string ⟨(mJ L).toArray⟩) w):=by
 go_enter Tryz.func77,Tryz.ntmps77;go_wp2;go_loopw [4] (fun i wx=>∃k:Nat,i=.int .i64 k/\∃o,G (aBp L w.heap.size k w wx o)) (fun i _=>L.length-(intOf i).toNat);case atStart =>refine⟨0,rfl,[],⟨bb _,?_,(am _ w).alloc (ah _) _,rfl⟩⟩;exact .inl ⟨ah _,.slice none 0 0,cc w _,World.ownsRowF_nil _ _ _ _,by simp[Value.ownBlock]⟩
 case round =>
  obtain⟨k,rfl,o,a⟩:=hrel;have J:=a.o.le;rcases ak k L.length with x|F
  ·have q:G (bV wr g c L):=B.o.below a.o.bel s;have h:L.drop k≠[]:=by{intro e;have:=az List.length e;rw[bm]at this;simp at this;omega}
   have b:=aES (L.drop k) h;have f:=uI (L.drop k) h;cases hlk:lookU (aI (L.drop k))with
   | mk m t =>
   rw[hlk]at b f;simp only at b f;have l:G (lookU (aI (L.drop k))=(m,t)):=hlk;have K:=a.o.len;cases t with|true=>{obtain⟨_,hm1,C⟩:=f rfl;rw[bm]at C;have y:max m 1=m:=by{omega};rw[af rfl,y]at b;have p:=Z b;have z:=aFW g c cap k (k+m) L.length (by omega) (by omega) (by omega);have u:k+m-k=m:=by{omega};rw[u]at z;rw[sx]at z;clear b f hlk y h u;go_wp2_with fail;refine(aFi g c cap k m true L _ q x (by omega) l).mono ?_;rintro e w' ⟨rfl,rfl⟩;go_wp2_with fail;refine(aPD w.heap.size w.heap.size (Lib.byteCells o) g (c+k) (cap-k) m ((L.drop k).take m) (by rw[bu,bm];omega) _ a.o.bld (Z (q.o.cut k m)) s (by rw[kG,bu,bm];omega) a.o.bel.size).mono ?_;rintro e j ⟨rfl,b1,b2,d⟩;have n:G (aBp L w.heap.size (k+m) w j (o++(L.drop k).take m)):=by{refine⟨by omega,.inr (by rw[<-nG];exact b1),a.o.bel.trans b2,?_⟩;have:=a.o.o;rw[p.o,i5]at this;rw[cv];exact this};clear b1 b2 d;go_wp2;refine⟨⟨k+m,by congr 1;omega,_,n⟩,?_⟩;simp[intOf];omega}|false=>{rw[ae (by simp),i5]at b;have p:=Z b;clear b f hlk h;go_wp2_with fail;refine(aFi g c cap k m false L _ q x (by omega) l).mono ?_;rintro e w' ⟨rfl,rfl⟩;go_wp2_with fail;refine(Tryz.Builder_WriteRune_k w.heap.size w.heap.size (Lib.byteCells o) 65533 (by omega) (by omega) _ a.o.bld (by rw[kG];omega) a.o.bel.size).mono ?_;rintro e j ⟨rfl,b1,b2,d⟩;have n:G (k+max m 1<=L.length->aBp L w.heap.size (k+max m 1) w j (o++[239,191,189])):=by{intro v;refine⟨v,.inr (by rw[<-nG,<-aKz];exact b1),a.o.bel.trans b2,?_⟩;have:=a.o.o;rw[p.o]at this;rw[cv];exact this};have v:m<=L.length-k:=by{have:=aG9 (L.drop k) (by intro e;have:=az List.length e;rw[bm]at this;simp at this;omega);rw[l.o,bm]at this;exact this};clear b1 b2 d;go_wp2;refine⟨⟨k+max m 1,by congr 1;omega,_,n.o (by omega)⟩,?_⟩;simp[intOf];omega}
  {have r:o=mJ L:=by{have:=a.o.o;rw[dy (by omega),aCL,eh]at this;exact this};have A:=Z r;clear r;go_wp2_with fail;refine(Tryz.Builder_String_any_k w.heap.size w.heap.size o _ a.o.bld a.o.bel.size).mono ?_;rintro e j ⟨rfl,b1,b2,d⟩;clear b1 d;go_wp2;go_ret;refine⟨?_,a.o.bel.trans b2⟩;rw[A.o];rfl}
open Go.RowKit PU8
structure lU (L:U) (i k v0 j v:Nat):Prop where
 lo:1<=j
 hi:j<=k
 bd:v<256*64^(j-1)
 o:PU8.follow (k-1) v0 (aI (L.drop (i+1)))=PU8.follow (k-j) v (aI (L.drop (i+j)))
theorem aQG (j:Nat)(a:1<=j)(h:j<=4):256*64^(j-1)<=67108864:=by
 have:j=1\/j=2\/j=3\/j=4:=by{omega};rcases this with rfl|rfl|rfl|rfl<;>decide
theorem lU.le {L:U}{i k a j v:Nat}(h:lU L i k a j v)(d:k<=4):v<67108864:=by
 have b:=h.bd;have c:=aQG j h.lo (by have:=h.hi;omega);omega
theorem lU.start (L:U)(i k v0:Nat)(a:1<=k)(b:v0<256):lU L i k v0 1 v0:=⟨ah _,a,by simpa using b,rfl⟩
theorem aAh (L:U)(i:Nat)(h:i<L.length):aI (L.drop i)=L[i].toNat :: aI (L.drop (i+1)):=by
 rw[dt h];rfl
theorem lU.next {L:U}{i k a j v:Nat}(h:lU L i k a j v)(l:j<k)(d:i+j<L.length)(c:Nat)(b:L[i+j].toNat=c)(e:128<=c)(f:c<=191):lU L i k a (j+1) (v*64+c-128):=by
 refine⟨by omega,by omega,?_,?_⟩;{have g:=h.bd;have m:=h.lo;have:64^(j+1-1)=64^(j-1)*64:=by{rw[<-bz];congr 1;omega};rw[this];omega};{rw[h.o,aAh L (i+j) d,b,show k-j=(k-(j+1))+1 from by omega];(conv=>lhs;unfold PU8.follow);rw[ae (by omega),jg]}
theorem lU.none {L:U}{i k a j v:Nat}(h:lU L i k a j v)(f:j<k)(d:i+j<L.length)(c:Nat)(b:L[i+j].toNat=c)(e:c<128\/191<c):PU8.follow (k-1) a (aI (L.drop (i+1)))=.none:=by
 rw[h.o,aAh L (i+j) d,b,show k-j=(k-(j+1))+1 from by omega];unfold PU8.follow;rw[af (by omega)]
theorem lU.done {L:U}{i k a j v:Nat}(h:lU L i k a j v)(b:k<=j):PU8.follow (k-1) a (aI (L.drop (i+1)))=some v:=by
 rw[h.o,show k-j=0 from by omega];rfl
structure oD (n k v j lo hi:Nat):Prop where
 le1:k<=j
 le2:j<=n
 bl:lo<67108864*64^(j-k)
 bh:hi<67108864*64^(j-k)
 o:PU8.widen (n-k) v v=PU8.widen (n-j) lo hi
theorem aPw (j:Nat)(h:j<=3):67108864*64^j<=17592186044416:=by
 have:j=0\/j=1\/j=2\/j=3:=by{omega};rcases this with rfl|rfl|rfl|rfl<;>decide
theorem oD.le {n k v j lo hi:Nat}(h:oD n k v j lo hi)(d:1<=k)(e:n<=4):lo<17592186044416/\hi<17592186044416:=by
 have a:=h.bl;have c:=h.bh;have b:=aPw (j-k) (by have:=h.le1;have:=h.le2;omega);omega
theorem oD.start (n k v:Nat)(b:k<=n)(a:v<67108864):oD n k v k v v:=⟨ah _,b,by simpa using a,by simpa using a,rfl⟩
theorem oD.next {n k v j lo hi:Nat}(h:oD n k v j lo hi)(e:j<n):oD n k v (j+1) (lo*64) (hi*64+63):=by
 have b:=h.le1;have a:64^(j+1-k)=64^(j-k)*64:=by{rw[<-bz];congr 1;omega};have c:=h.bl;have d:=h.bh;refine⟨by omega,by omega,by rw[a];omega,by rw[a];omega,?_⟩;rw[h.o,show n-j=(n-(j+1))+1 from by omega];rfl
theorem oD.done {n k v j lo hi:Nat}(h:oD n k v j lo hi)(a:n<=j):PU8.widen (n-k) v v=(lo,hi):=by
 rw[h.o,show n-j=0 from by omega];rfl
