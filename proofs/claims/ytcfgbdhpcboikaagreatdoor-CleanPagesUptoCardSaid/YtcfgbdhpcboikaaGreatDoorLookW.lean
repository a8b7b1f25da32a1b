/-
utf8.look: what it answers of the bytes at a place (printed by wip/gen/lookw.py).
-/
import Derived.Test.YtcfgbdhpcboikaaGreatDoorTextLawB
namespace Go.Proofs.YtcfgbdhpcboikaaGreatDoor
set_option maxHeartbeats 8000000
set_option maxRecDepth 100000
open Go.RowKit PU8
def cP (w:H)(g off:Nat)(L:U):Prop:=∀j (h:j<L.length),w.cell? ⟨g,off+j,none⟩=some (.int .u8 (L[j].toNat:Nat))
theorem yR (L:U)(k:Nat)(h:k<L.length):aL (L.drop k)=L[k].toNat :: aL (L.drop (k+1)):=by
 rw[dy h];rfl
theorem aKY (L:U)(k:Nat)(h:L.length<=k):aL (L.drop k)=[]:=by
 rw[d6 h];rfl
def jI (L:U)(i need m:Nat)(t:Bool)(n lo hi:Nat):Prop :=
 1<=n/\n<=need+1/\i+n<=L.length/\contU (need+1-n) lo hi n (aL (L.drop (i+n)))=(m,t)
theorem jI.stop {L:U}{i b m:Nat}{t:Bool}{n lo hi:Nat}(h:jI L i b m t n lo hi)(a:n=b+1):m=n/\t=true:=by
 obtain⟨_,_,_,h⟩:=h;rw[a,li]at h;unfold contU at h;cases h;exact⟨a.symm,rfl⟩
theorem jI.short {L:U}{i a m:Nat}{t:Bool}{n lo hi:Nat}(h:jI L i a m t n lo hi)(d:n<=a)(c:i+n=L.length):m=n/\t=false:=by
 obtain⟨_,_,_,h⟩:=h;obtain⟨k,b⟩:∃k,a+1-n=k+1:=⟨a-n,by omega⟩;rw[b,aKY _ _ (by omega)]at h;unfold contU at h;cases h;exact⟨rfl,rfl⟩
theorem jI.bad {L:U}{i a m:Nat}{t:Bool}{n lo hi:Nat}(h:jI L i a m t n lo hi)(e:n<=a)(c:i+n<L.length)(b:L[i+n].toNat<lo\/hi<L[i+n].toNat):m=n/\t=false:=by
 obtain⟨_,_,_,h⟩:=h;obtain⟨k,d⟩:∃k,a+1-n=k+1:=⟨a-n,by omega⟩;rw[d,yR _ _ c]at h;unfold contU at h;rw[ae b]at h;cases h;exact⟨rfl,rfl⟩
theorem jI.next {L:U}{i a m:Nat}{t:Bool}{n lo hi:Nat}(h:jI L i a m t n lo hi)(f:n<=a)(c:i+n<L.length)(b:¬(L[i+n].toNat<lo\/hi<L[i+n].toNat)):jI L i a m t (n+1) 128 191:=by
 obtain⟨e,_,_,h⟩:=h;obtain⟨k,d⟩:∃k,a+1-n=k+1:=⟨a-n,by omega⟩;rw[d,yR _ _ c]at h;unfold contU at h;rw[ac b]at h;refine⟨by omega,by omega,by omega,?_⟩;rw[show a+1-(n+1)=k by omega];exact h
theorem mN (g u cap i m c N q b:Nat)(t:Bool)(L:U)(w:H)(Q:G (cP w g u L))(hi:i<L.length)(hL:L.length<=140737488355328)(S:w.cell? ⟨g,u+i,none⟩=some (.int .u8 (c:Nat)))(ad:194<=c)
  (T:c<224/\N=1/\q=128/\b=191\/c=224/\N=2/\q=160/\b=191\/c=237/\N=2/\q=128/\b=159\/(225<=c/\c<240/\c≠237)/\N=2/\q=128/\b=191\/c=240/\N=3/\q=144/\b=191\/(241<=c/\c<244)/\N=3/\q=128/\b=191\/c=244/\N=3/\q=128/\b=143)
  (R:G (jI L i N m t 1 q b)):Y 129 #[.slice (some ⟨g,u,none⟩) L.length cap,.int .i64 i] w fun e w'=>e=.returned (.tuple #[.int .i64 m,.bool t])/\w=w':=by
 have X:decide ((c:Int)<128)=false:=by simp;omega
 have aa:decide ((c:Int)<194)=false:=by simp;omega
 rcases T with⟨p,f,rfl,rfl⟩|⟨p,f,rfl,rfl⟩|⟨p,f,rfl,rfl⟩|⟨p,f,rfl,rfl⟩|⟨p,f,rfl,rfl⟩|⟨p,f,rfl,rfl⟩|⟨p,f,rfl,rfl⟩
 all_goals (first|have x:decide ((c:Int)<224)=true:=(by simp;omega)|have x:decide ((c:Int)<224)=false:=(by simp;omega)|skip)
 all_goals (first|have A:decide ((c:Int)<240)=true:=(by simp;omega)|have A:decide ((c:Int)<240)=false:=(by simp;omega)|skip)
 all_goals (first|have C:decide ((c:Int)<244)=true:=(by simp;omega)|have C:decide ((c:Int)<244)=false:=(by simp;omega)|skip)
 all_goals (first|have y:((c:Int)==224)=true:=(by simp;omega)|have y:((c:Int)==224)=false:=(by simp;omega)|skip)
 all_goals (first|have z:((c:Int)==237)=true:=(by simp;omega)|have z:((c:Int)==237)=false:=(by simp;omega)|skip)
 all_goals (first|have B:((c:Int)==240)=true:=(by simp;omega)|have B:((c:Int)==240)=false:=(by simp;omega)|skip)
 all_goals (first|have D:((c:Int)==244)=true:=(by simp;omega)|have D:((c:Int)==244)=false:=(by simp;omega)|skip)
 all_goals (have r:=Z f)
 all_goals (have ab:=Z p)
 all_goals clear f p
 all_goals (go_enter Tryz.func129,Tryz.ntmps129)
 all_goals go_wp2
 all_goals clear S X aa
 all_goals ((try clear x);(try clear A);(try clear C);(try clear y);(try clear z);(try clear B);(try clear D))
 all_goals (
  go_loop [4,5,8,9,10] (fun r4 r5 l h n=>r4=.int .i64 0/\r5=.bool false/\∃K lo hi:Nat,n=.int .i64 K/\l=.int .u8 lo/\h=.int .u8 hi/\G (jI L i N m t K lo hi)) (fun _ _ _ _ n=>N+1-(intOf n).toNat)
  case atStart=>exact⟨rfl,rfl,1,_,_,rfl,rfl,rfl,R⟩
  case round =>
   obtain⟨rfl,rfl,n,lo,hi',rfl,rfl,rfl,j⟩:=hrel;have n1:1<=n:=j.o.1;have n2:n<=3+1:=by have M:=j.o.2.1;have P:=r.o;omega
   have n3:i+n<=L.length:=j.o.2.2.1;rcases ak N n with hn|hn
   ·have E:=j.o.stop (by have M:=j.o.2.1;omega);have a:=Z E;clear E;rw[r.o]at hn
    go_wp2
    go_ret2;refine⟨?_,rfl⟩;rw[a.o.1,a.o.2];rfl
   ·rcases ak (i+n) L.length with s|an
    ·have F:=Q.o (i+n) s;by_cases k:L[i+n].toNat<lo\/hi'<L[i+n].toNat
     ·have a:=Z (j.o.bad hn s k);rw[r.o]at hn
      have v:=Z k;generalize L[i+n].toNat=d at F k;have W:((i:Int)+(n:Int)==(L.length:Int))=false:=by rw[ai];omega
      rcases ak d lo with hd|hd
      ·clear k v;go_wp2
       go_ret2;refine⟨?_,rfl⟩;rw[a.o.1,a.o.2];rfl
      ·have V:hi'<d:=by omega
       clear k v;go_wp2
       go_ret2;refine⟨?_,rfl⟩;rw[a.o.1,a.o.2];rfl
     ·have a:=Z (j.o.next hn s k);rw[r.o]at hn
      generalize L[i+n].toNat=d at F k;have W:((i:Int)+(n:Int)==(L.length:Int))=false:=by rw[ai];omega
      have ah:lo<=d:=by omega
      have V:d<=hi':=by omega
      clear k;go_wp2
      go_round
      case rel=>exact⟨rfl,rfl,n+1,128,191,by go_num,rfl,rfl,a⟩
      case measure=>have P:=r.o;simp[intOf];omega
    ·have J:i+n=L.length:=by omega
     have a:=Z (j.o.short hn J);rw[r.o]at hn
     have al:((i:Int)+(n:Int)==(L.length:Int))=true:=by rw[cv];omega
     clear J;go_wp2
     go_ret2;refine⟨?_,rfl⟩;rw[a.o.1,a.o.2];rfl)
open Go.RowKit PU8
theorem aNh (g b cap i c:Nat)(L:U)(w:H)(hi:i<L.length)(_hL:L.length<=140737488355328)(f:w.cell? ⟨g,b+i,none⟩=some (.int .u8 (c:Nat)))(a:c<128) :
  Y 129 #[.slice (some ⟨g,b,none⟩) L.length cap,.int .i64 i] w fun e w'=>e=.returned (.tuple #[.int .i64 1,.bool true])/\w=w':=by
 have h:decide ((c:Int)<128)=true:=by simp;omega
 have d:=Z a;clear a;go_enter Tryz.func129,Tryz.ntmps129
 go_wp2
 go_ret2;exact⟨rfl,rfl⟩
theorem aKV (g b cap i c:Nat)(L:U)(w:H)(hi:i<L.length)(_hL:L.length<=140737488355328)(f:w.cell? ⟨g,b+i,none⟩=some (.int .u8 (c:Nat)))(a:128<=c/\c<194) :
  Y 129 #[.slice (some ⟨g,b,none⟩) L.length cap,.int .i64 i] w fun e w'=>e=.returned (.tuple #[.int .i64 0,.bool false])/\w=w':=by
 have h:decide ((c:Int)<128)=false:=by simp;omega
 have j:decide ((c:Int)<194)=true:=by simp;omega
 have d:=Z a;clear a;go_enter Tryz.func129,Tryz.ntmps129
 go_wp2
 go_ret2;exact⟨rfl,rfl⟩
theorem aKU (g b cap i c:Nat)(L:U)(w:H)(hi:i<L.length)(_hL:L.length<=140737488355328)(f:w.cell? ⟨g,b+i,none⟩=some (.int .u8 (c:Nat)))(a:244<c) :
  Y 129 #[.slice (some ⟨g,b,none⟩) L.length cap,.int .i64 i] w fun e w'=>e=.returned (.tuple #[.int .i64 0,.bool false])/\w=w':=by
 have h:decide ((c:Int)<128)=false:=by simp;omega
 have j:decide ((c:Int)<194)=false:=by simp;omega
 have k:decide ((c:Int)<224)=false:=by simp;omega
 have l:decide ((c:Int)<240)=false:=by simp;omega
 have m:decide ((c:Int)<244)=false:=by simp;omega
 have n:((c:Int)==224)=false:=by simp;omega
 have o:((c:Int)==237)=false:=by simp;omega
 have p:((c:Int)==240)=false:=by simp;omega
 have q:((c:Int)==244)=false:=by simp;omega
 have d:=Z a;clear a;go_enter Tryz.func129,Tryz.ntmps129
 go_wp2
 go_ret2;exact⟨rfl,rfl⟩
theorem gR (L:U)(i a lo hi m:Nat)(t:Bool)(h:i<L.length)(b:contU a lo hi 1 (aL (L.drop (i+1)))=(m,t)):jI L i a m t 1 lo hi :=
 ⟨ag _,by omega,h,b⟩
theorem aGc (g a cap i m:Nat)(t:Bool)(L:U)(w:H)(f:G (cP w g a L))(hi:i<L.length)(d:L.length<=140737488355328)(hr:G (lookU (aL (L.drop i))=(m,t))) :
  Y 129 #[.slice (some ⟨g,a,none⟩) L.length cap,.int .i64 i] w fun e w'=>e=.returned (.tuple #[.int .i64 m,.bool t])/\w=w':=by
 have b:=f.o i hi;have h:=hr.o;rw[yR _ _ hi,look_cons]at h
 have v:=L[i].toNat_lt;generalize L[i].toNat=c at b h v;by_cases k:c<128
 ·rw[ae k]at h
  cases h;exact aNh g a cap i c L w hi d b k
 rw[ac k]at h
 by_cases l:c<194
 ·rw[ae l]at h
  cases h;exact aKV g a cap i c L w hi d b ⟨by omega,l⟩
 rw[ac l]at h
 by_cases n:c<224
 ·rw[ae n]at h
  exact mN g a cap i m c 1 128 191 t L w f hi d b (by omega) (.inl ⟨n,rfl,rfl,rfl⟩) (Z (gR L i _ _ _ m t hi h))
 rw[ac n]at h
 by_cases p:c=224
 ·rw[ae p]at h
  exact mN g a cap i m c 2 160 191 t L w f hi d b (by omega) (.inr (.inl ⟨p,rfl,rfl,rfl⟩)) (Z (gR L i _ _ _ m t hi h))
 rw[ac p]at h
 by_cases j:c=237
 ·rw[ae j]at h
  exact mN g a cap i m c 2 128 159 t L w f hi d b (by omega) (.inr (.inr (.inl ⟨j,rfl,rfl,rfl⟩))) (Z (gR L i _ _ _ m t hi h))
 rw[ac j]at h
 by_cases q:c<240
 ·rw[ae q]at h
  exact mN g a cap i m c 2 128 191 t L w f hi d b (by omega) (.inr (.inr (.inr (.inl ⟨⟨by omega,q,j⟩,rfl,rfl,rfl⟩)))) (Z (gR L i _ _ _ m t hi h))
 rw[ac q]at h
 by_cases r:c=240
 ·rw[ae r]at h
  exact mN g a cap i m c 3 144 191 t L w f hi d b (by omega) (.inr (.inr (.inr (.inr (.inl ⟨r,rfl,rfl,rfl⟩))))) (Z (gR L i _ _ _ m t hi h))
 rw[ac r]at h
 by_cases s:c<244
 ·rw[ae s]at h
  exact mN g a cap i m c 3 128 191 t L w f hi d b (by omega) (.inr (.inr (.inr (.inr (.inr (.inl ⟨⟨by omega,s⟩,rfl,rfl,rfl⟩)))))) (Z (gR L i _ _ _ m t hi h))
 rw[ac s]at h
 by_cases u:c=244
 ·rw[ae u]at h
  exact mN g a cap i m c 3 128 143 t L w f hi d b (by omega) (.inr (.inr (.inr (.inr (.inr (.inr ⟨u,rfl,rfl,rfl⟩)))))) (Z (gR L i _ _ _ m t hi h))
 rw[ac u]at h
 cases h;exact aKU g a cap i c L w hi d b (by omega)
open Go.RowKit
theorem Tryz.info5:(Tryz.prog.info? 5).map (fun i=>(i.zero,i.size,i.bytes))=some (some (.int .u8 0),1,1):=by kernel_rfl
theorem cP.below {w w':H}{g a B:Nat}{L:U}(h:cP w g a L)(b:Below B w w')(c:g<B):cP w' g a L:=by
 intro j d;rw[b.cell (p:=⟨g,a+j,none⟩) c];exact h j d
theorem cP.news {w:H}{g off:Nat}{L:U}(h:cP w g off L):∀j u,(Lib.byteCells L)[j]?=some u->w.cell? ((⟨g,off,none⟩:Addr).add j)=some u:=by
 intro j u a;unfold Lib.byteCells at a;rw[gv]at a;rcases ak j L.length with b|b;{rw[bc b]at a;simp at a;have c:(⟨g,off,none⟩:Addr).add j=⟨g,off+j,none⟩:=by{unfold Addr.add;split<;>simp_all};rw[c,h j b,a]};{rw[fi b]at a;simp at a}
theorem zJ (L:U):∀u∈Lib.byteCells L,u.oneCell'=true:=by
 intro u a;unfold Lib.byteCells at a;obtain⟨b,_,rfl⟩:=ik.1 a;rfl
theorem jK (L:U):(Lib.byteCells L).length=L.length:=by unfold Lib.byteCells;simp
theorem aQD (B b:Nat)(a:List Value)(g j cap n:Nat)(L:U)(F:L.length=n)(w:H)(h:Lib.IsBuilderF 112 5 B b a w)(M:G (cP w g j L))(A:g<B)(hlen:a.length+L.length<=140737488355328)(aa:B<=w.heap.size) :
  Y 130 #[.pointer (some ⟨b,0,none⟩),.slice (some ⟨g,j,none⟩) n cap] w fun e w'=>e=.returned (.tuple #[.int .i64 n,.nilIface])/\(Lib.BuilderAtF 112 5 B b (.pointer (some ⟨b,0,none⟩)) (a++Lib.byteCells L) w'/\Below B w w'/\Lib.OthersKept 5 (some b) w w'):=by
 subst F;obtain⟨R,hi,N,P,Q⟩:=cq Tryz.info5;go_enter Tryz.func130,Tryz.ntmps130
 go_wp2_with (go_at_call 156;refine(Tryz.Builder_copyCheck_k B b a _ h).mono ?_)
 rintro e c ⟨rfl,z,d,D⟩;obtain⟨u,v,i,r,J⟩:=z;have K:G (cP c g j L):=M.o.below d A;have c0:c.cell? ⟨b,0,none⟩=some (.pointer (some ⟨b,0,none⟩)):=by rw[qg i];rfl
 have c1:c.cell? ⟨b,1,none⟩=some v:=by rw[qg i];rfl
 go_wp2_with (at_builtin;refine wpList_append_ownF _ rfl _ _ 35 rfl B 5 R (.int .u8 0) 1 1 Tryz.underlying35 hi N P Q rfl (by decide) _ _ _ rfl r ⟨g,j,none⟩ L.length cap (Lib.byteCells L) rfl ?c1 K.o.news (zJ L) ?c3 ?c4 ?c5 ?_)
 case c1=>rw[jK,du]
 case c3=>unfold maxLen;omega
 case c4=>omega
 case c5=>have:=d.size;omega
 intro v' l x q _;have E:b<c.heap.size:=by
  rcases ak b c.heap.size with m|m
  ·exact m
  ·simp[Array.getElem?_eq_none m]at i
 have f:l.heap[b]?=some (.cells #[.pointer (some ⟨b,0,none⟩),v] 112 (0,0)):=by
  rw[q.block b E (fun e=>J e.symm)];exact i
 have W:l.cell? ⟨b,0,none⟩=some (.pointer (some ⟨b,0,none⟩)):=by rw[qg f];rfl
 have X:l.cell? ⟨b,1,none⟩=some v:=by rw[qg f];rfl
 have f1:l.frozen? ⟨b,1,none⟩=false:=Lib.frozen_of_heap f 1;obtain⟨t,y,S,rfl⟩:∃t y cap,v'=.slice t y cap:=by
  rcases x.2 with⟨s,_⟩|⟨g,cap,V,fz,s,_⟩
  ·exact⟨_,_,_,s⟩
  ·exact⟨_,_,_,s⟩
 go_wp2
 go_ret2;refine⟨rfl,?_,?_,(D.grown q (Lib.ownsRowF_kind r)).setCell ⟨b,1,none⟩ rfl _⟩
 ·exact Lib.BuilderAtF.put (T:=112) (e:=5) u f (bs':=a++Lib.byteCells L) (by simpa [jK]using x) (by decide)
 ·exact(d.grown q (by have:=d.size;omega) (fun k C=>(r.lt k C).1)).setCell (p:=⟨b,1,none⟩) u _
open Go.RowKit PU8
theorem aGP (g a cap k h:Nat)(n:Nat)(e:k<cap)(b:k<=h)(c:h<=cap)(w:H) :
  (Instr.slice 35 (.slice (some ⟨g,a,none⟩) n cap) (some (.int .i64 k)) (some (.int .i64 h)) none).run Tryz.prog w=.ok (.slice (some ⟨g,a+k,none⟩) (h-k) (cap-k)) w:=by
 rw[yY 35 5 Tryz.underlying35 (by kernel_rfl) w (some ⟨g,a,none⟩) n cap k h b c,ac (by omega)];have d:(⟨g,a,none⟩:Addr).add k=⟨g,a+k,none⟩:=by{unfold Addr.add;split<;>simp_all};simp[d]
theorem cP.cut {w:H}{g a:Nat}{L:U}(h:cP w g a L)(k m:Nat):cP w g (a+k) ((L.drop k).take m):=by
 intro j b;rw[br,bn]at b;rw[lr,h (k+j) (by omega)];simp
theorem aLC:Lib.runeCells 65533=Lib.byteCells [239,191,189]:=by
 rw[<-Lib.byteCells_encodeRune];have:Lib.encodeRune 65533=[239,191,189]:=by{decide};rw[this]
theorem lE (a b:U):Lib.byteCells a++Lib.byteCells b=Lib.byteCells (a++b):=by simp[Lib.byteCells]
theorem aH6 (l:U)(h:l≠[]):(lookU (aL l)).1<=l.length:=by
 have a:∀b lo hi n (r:List Nat),(contU b lo hi n r).1<=n+r.length:=by{intro b;induction b with|zero=>{intro lo hi n r;simp[contU]}|succ k ih=>{intro lo hi n r;cases r with|nil=>simp[contU]|cons c r=>{unfold contU;split;{simp};{have:=ih 0x80 0xbf (n+1) r;simp only[bw];omega}}}};have d:(aL l).length=l.length:=by unfold aL;simp
 rw[<-d];cases hb:aL l with
 | nil=>exact absurd hb (oY h)
 | cons c r =>
  rw[look_cons];simp only[bw];repeat' split
  all_goals first
   | (have:=a 1 0x80 0xbf 1 r;omega)
   | (have:=a 2 0xa0 0xbf 1 r;omega)
   | (have:=a 2 0x80 0x9f 1 r;omega)
   | (have:=a 2 0x80 0xbf 1 r;omega)
   | (have:=a 3 0x90 0xbf 1 r;omega)
   | (have:=a 3 0x80 0xbf 1 r;omega)
   | (have:=a 3 0x80 0x8f 1 r;omega)
   | (simp only;omega)
structure aCa (L:U) (B k:Nat) (w wx:H) (o':U):Prop where
 le:k<=L.length
 bld:Lib.IsBuilderF 112 5 B B (Lib.byteCells o') wx
 bel:Below B w wx
 o:o'++nR (L.drop k)=nR L
theorem aCa.len {L:U}{B k:Nat}{w wx:H}{o:U}(h:aCa L B k w wx o):o.length<=3*L.length:=by
 have:=az List.length h.o;rw[aw]at this;have a:=aDG L.length L (ag _);omega
theorem aIF (g c cap:Nat)(L:U)(D:L.length<=1000000000)(E:L.length<=cap)(w:H)(B:G (cP w g c L))(s:g<w.heap.size) :
  Y 77 #[.slice (some ⟨g,c,none⟩) L.length cap] w (O (.string ⟨(nR L).toArray⟩) w):=by
 go_enter Tryz.func77,Tryz.ntmps77;go_wp2;go_loopw [4] (fun i wx=>∃k:Nat,i=.int .i64 k/\∃o,G (aCa L w.heap.size k w wx o)) (fun i _=>L.length-(intOf i).toNat);case atStart =>refine⟨0,rfl,[],⟨ax _,?_,(aj _ w).alloc (ag _) _,rfl⟩⟩;exact .inl ⟨ag _,.slice none 0 0,bi w _,World.ownsRowF_nil _ _ _ _,by simp[Value.ownBlock]⟩
 case round =>
  obtain⟨k,rfl,o,a⟩:=hrel;have J:=a.o.le;rcases ak k L.length with x|F
  ·have q:G (cP wr g c L):=B.o.below a.o.bel s;have h:L.drop k≠[]:=by{intro e;have:=az List.length e;rw[bn]at this;simp at this;omega}
   have b:=aFO (L.drop k) h;have f:=vY (L.drop k) h;cases hlk:lookU (aL (L.drop k))with
   | mk m t =>
   rw[hlk]at b f;simp only at b f;have l:G (lookU (aL (L.drop k))=(m,t)):=hlk;have K:=a.o.len;cases t with|true=>{obtain⟨_,hm1,C⟩:=f rfl;rw[bn]at C;have y:max m 1=m:=by{omega};rw[ae rfl,y]at b;have p:=Z b;have z:=aGP g c cap k (k+m) L.length (by omega) (by omega) (by omega);have u:k+m-k=m:=by{omega};rw[u]at z;rw[te]at z;clear b f hlk y h u;go_wp2_with fail;refine(aGc g c cap k m true L _ q x (by omega) l).mono ?_;rintro e w' ⟨rfl,rfl⟩;go_wp2_with fail;refine(aQD w.heap.size w.heap.size (Lib.byteCells o) g (c+k) (cap-k) m ((L.drop k).take m) (by rw[br,bn];omega) _ a.o.bld (Z (q.o.cut k m)) s (by rw[jK,br,bn];omega) a.o.bel.size).mono ?_;rintro e j ⟨rfl,b1,b2,d⟩;have n:G (aCa L w.heap.size (k+m) w j (o++(L.drop k).take m)):=by{refine⟨by omega,.inr (by rw[<-lE];exact b1),a.o.bel.trans b2,?_⟩;have:=a.o.o;rw[p.o,jd]at this;rw[ct];exact this};clear b1 b2 d;go_wp2;refine⟨⟨k+m,by congr 1;omega,_,n⟩,?_⟩;simp[intOf];omega}|false=>{rw[ac (by simp),jd]at b;have p:=Z b;clear b f hlk h;go_wp2_with fail;refine(aGc g c cap k m false L _ q x (by omega) l).mono ?_;rintro e w' ⟨rfl,rfl⟩;go_wp2_with fail;refine(Tryz.Builder_WriteRune_k w.heap.size w.heap.size (Lib.byteCells o) 65533 (by omega) (by omega) _ a.o.bld (by rw[jK];omega) a.o.bel.size).mono ?_;rintro e j ⟨rfl,b1,b2,d⟩;have n:G (k+max m 1<=L.length->aCa L w.heap.size (k+max m 1) w j (o++[239,191,189])):=by{intro v;refine⟨v,.inr (by rw[<-lE,<-aLC];exact b1),a.o.bel.trans b2,?_⟩;have:=a.o.o;rw[p.o]at this;rw[ct];exact this};have v:m<=L.length-k:=by{have:=aH6 (L.drop k) (by intro e;have:=az List.length e;rw[bn]at this;simp at this;omega);rw[l.o,bn]at this;exact this};clear b1 b2 d;go_wp2;refine⟨⟨k+max m 1,by congr 1;omega,_,n.o (by omega)⟩,?_⟩;simp[intOf];omega}
  {have r:o=nR L:=by{have:=a.o.o;rw[d6 (by omega),aDH,dc]at this;exact this};have A:=Z r;clear r;go_wp2_with fail;refine(Tryz.Builder_String_any_k w.heap.size w.heap.size o _ a.o.bld a.o.bel.size).mono ?_;rintro e j ⟨rfl,b1,b2,d⟩;clear b1 d;go_wp2;go_ret;refine⟨?_,a.o.bel.trans b2⟩;rw[A.o];rfl}
open Go.RowKit PU8
structure nA (L:U) (i k v0 j v:Nat):Prop where
 lo:1<=j
 hi:j<=k
 bd:v<256*64^(j-1)
 o:PU8.follow (k-1) v0 (aL (L.drop (i+1)))=PU8.follow (k-j) v (aL (L.drop (i+j)))
theorem aRF (j:Nat)(a:1<=j)(h:j<=4):256*64^(j-1)<=67108864:=by
 have:j=1\/j=2\/j=3\/j=4:=by{omega};rcases this with rfl|rfl|rfl|rfl<;>decide
theorem nA.le {L:U}{i k a j v:Nat}(h:nA L i k a j v)(d:k<=4):v<67108864:=by
 have b:=h.bd;have c:=aRF j h.lo (by have:=h.hi;omega);omega
theorem nA.start (L:U)(i k v0:Nat)(a:1<=k)(b:v0<256):nA L i k v0 1 v0:=⟨ag _,a,by simpa using b,rfl⟩
theorem aA3 (L:U)(i:Nat)(h:i<L.length):aL (L.drop i)=L[i].toNat :: aL (L.drop (i+1)):=by
 rw[dy h];rfl
theorem nA.next {L:U}{i k a j v:Nat}(h:nA L i k a j v)(l:j<k)(d:i+j<L.length)(c:Nat)(b:L[i+j].toNat=c)(e:128<=c)(f:c<=191):nA L i k a (j+1) (v*64+c-128):=by
 refine⟨by omega,by omega,?_,?_⟩;{have g:=h.bd;have m:=h.lo;have:64^(j+1-1)=64^(j-1)*64:=by{rw[<-bz];congr 1;omega};rw[this];omega};{rw[h.o,aA3 L (i+j) d,b,show k-j=(k-(j+1))+1 from by omega];(conv=>lhs;unfold PU8.follow);rw[ac (by omega),lr]}
theorem nA.none {L:U}{i k a j v:Nat}(h:nA L i k a j v)(f:j<k)(d:i+j<L.length)(c:Nat)(b:L[i+j].toNat=c)(e:c<128\/191<c):PU8.follow (k-1) a (aL (L.drop (i+1)))=.none:=by
 rw[h.o,aA3 L (i+j) d,b,show k-j=(k-(j+1))+1 from by omega];unfold PU8.follow;rw[ae (by omega)]
theorem nA.done {L:U}{i k a j v:Nat}(h:nA L i k a j v)(b:k<=j):PU8.follow (k-1) a (aL (L.drop (i+1)))=some v:=by
 rw[h.o,show k-j=0 from by omega];rfl
structure pJ (n k v j lo hi:Nat):Prop where
 le1:k<=j
 le2:j<=n
 bl:lo<67108864*64^(j-k)
 bh:hi<67108864*64^(j-k)
 o:PU8.widen (n-k) v v=PU8.widen (n-j) lo hi
theorem aQw (j:Nat)(h:j<=3):67108864*64^j<=17592186044416:=by
 have:j=0\/j=1\/j=2\/j=3:=by{omega};rcases this with rfl|rfl|rfl|rfl<;>decide
theorem pJ.le {n k v j lo hi:Nat}(h:pJ n k v j lo hi)(d:1<=k)(e:n<=4):lo<17592186044416/\hi<17592186044416:=by
 have a:=h.bl;have c:=h.bh;have b:=aQw (j-k) (by have:=h.le1;have:=h.le2;omega);omega
theorem pJ.start (n k v:Nat)(b:k<=n)(a:v<67108864):pJ n k v k v v:=⟨ag _,b,by simpa using a,by simpa using a,rfl⟩
theorem pJ.next {n k v j lo hi:Nat}(h:pJ n k v j lo hi)(e:j<n):pJ n k v (j+1) (lo*64) (hi*64+63):=by
 have b:=h.le1;have a:64^(j+1-k)=64^(j-k)*64:=by{rw[<-bz];congr 1;omega};have c:=h.bl;have d:=h.bh;refine⟨by omega,by omega,by rw[a];omega,by rw[a];omega,?_⟩;rw[h.o,show n-j=(n-(j+1))+1 from by omega];rfl
theorem pJ.done {n k v j lo hi:Nat}(h:pJ n k v j lo hi)(a:n<=j):PU8.widen (n-k) v v=(lo,hi):=by
 rw[h.o,show n-j=0 from by omega];rfl
open Go.RowKit PU8
theorem aPV {x y:Bool}{a b c d:Int}(e:x=y)(h:a=c)(f:b=d):Ending.returned (.tuple #[.bool x,.int .i64 a,.int .i64 b])=.returned (.tuple #[.bool y,.int .i64 c,.int .i64 d]):=by rw[e,h,f]
theorem aQe (c:Nat)(h:c<256):(PU8.size c).1<=4/\(PU8.size c).2<256:=by
 unfold PU8.size;by_cases a:c<128;{rw[ae a];simp only;omega};rw[ac a];by_cases b:192<=c/\c<224;{rw[ae b];simp only;omega};rw[ac b];by_cases d:224<=c/\c<240;{rw[ae d];simp only;omega};rw[ac d];by_cases e:240<=c/\c<248;{rw[ae e];simp only;omega};rw[ac e];simp only;omega
theorem aGy (g b cap i k n0 h:Nat)(L:U)(w:H)(d:G (cP w g b L))(hi:i<L.length)(m:L.length<=140737488355328)(p:1<=k)(q:k<=4)
  (a:G (PU8.size (L[i]'hi).toNat=(n0,h))) (s:n0<=4) (r:n0=0\/n0<k\/L.length<i+k) :
  Y 141 #[.slice (some ⟨g,b,none⟩) L.length cap,.int .i64 i,.int .i64 k] w fun e w'=>e=.returned (.tuple #[.bool false,.int .i64 0,.int .i64 0])/\w=w':=by
 have n:=d.o i hi;by_cases c:n0=0
 ·subst c;go_enter Tryz.func141,Tryz.ntmps141
  go_wp2_with (go_at_call 180;refine(vI _ _ _ _ a).mono ?_;rintro e w' ⟨rfl,rfl⟩)
  go_ret3;exact⟨rfl,rfl⟩
 ·have t:((n0:Int)==0)=false:=by simp;omega
  by_cases j:n0<k
  ·have f:decide ((n0:Int)<(k:Int))=true:=by simp;omega
   go_enter Tryz.func141,Tryz.ntmps141
   go_wp2_with (go_at_call 180;refine(vI _ _ _ _ a).mono ?_;rintro e w' ⟨rfl,rfl⟩)
   go_ret3;exact⟨rfl,rfl⟩
  ·have l:L.length<i+k:=by omega
   have f:decide ((n0:Int)<(k:Int))=false:=by simp;omega
   go_enter Tryz.func141,Tryz.ntmps141
   go_wp2_with (go_at_call 180;refine(vI _ _ _ _ a).mono ?_;rintro e w' ⟨rfl,rfl⟩)
   go_ret3;exact⟨rfl,rfl⟩
theorem aJ4 (L:U)(i k n0 a:Nat)(hi:i<L.length)(_hk:1<=k)(d:PU8.size (L[i]'hi).toNat=(n0,a))(b:n0≠0)(c:k<=n0)(e:i+k<=L.length) :
  begins (aL (L.drop i)) k=match PU8.follow (k-1) a (aL (L.drop (i+1)))with
   | none=>(false,0,0)
   | some v=>(decide (max (PU8.widen (n0-k) v v).1 (PU8.least n0)<=min (PU8.widen (n0-k) v v).2 0x10ffff)&&!(decide (0xd800<=max (PU8.widen (n0-k) v v).1 (PU8.least n0))&&decide (min (PU8.widen (n0-k) v v).2 0x10ffff<=0xdfff)),n0,v):=by
 rw[aA3 L i hi,begins_at _ _ k n0 a d b c (by unfold aL;rw[dw,bn];omega)];cases PU8.follow (k-1) a (aL (L.drop (i+1)))<;>rfl
theorem aGz (g C cap i k n0 l:Nat)(b:Bool)(n v:Nat)(L:U)(w:H)(x:G (cP w g C L))(hi:i<L.length)(hL:L.length<=140737488355328)(u:1<=k)(S:k<=4)
  (A:G (PU8.size (L[i]'hi).toNat=(n0,l))) (z:n0<=4) (V:l<256) (J:n0≠0) (y:k<=n0) (T:i+k<=L.length) (hr:G (begins (aL (L.drop i)) k=(b,n,v))) :
  Y 141 #[.slice (some ⟨g,C,none⟩) L.length cap,.int .i64 i,.int .i64 k] w fun e w'=>e=.returned (.tuple #[.bool b,.int .i64 n,.int .i64 v])/\w=w':=by
 have K:=x.o i hi;have t0:((n0:Int)==0)=false:=by simp;omega
 have t1:decide ((n0:Int)<(k:Int))=false:=by simp;omega
 have s:=Z (aJ4 L i k n0 l hi u A.o J y T);go_enter Tryz.func141,Tryz.ntmps141
 go_wp2_with (go_at_call 180;refine(vI _ _ _ _ A).mono ?_;rintro e w' ⟨rfl,rfl⟩)
 clear K;go_loop [6,7,8,10,11] (fun X r7 r8 a j=>X=.bool false/\r7=.int .i64 0/\r8=.int .i64 0/\∃v' m:Nat,a=.int .i64 v'/\j=.int .i64 m/\G (nA L i k l m v')) (fun _ _ _ _ j=>k-(intOf j).toNat)
 case atStart=>exact⟨rfl,rfl,rfl,l,1,rfl,rfl,Z (nA.start L i k l u V)⟩
 case round =>
  obtain⟨rfl,rfl,rfl,v',j,rfl,rfl,f⟩:=hrel;have W:=f.o.le S;have ab:=f.o.lo;have ad:=f.o.hi;rcases ak j k with hjk|hjk
  ·have h:i+j<L.length:=by omega
   have Q:=x.o (i+j) h;have P:=(L[i+j]'h).toNat_lt;obtain⟨c,t⟩:∃c,(L[i+j]'h).toNat=c:=⟨_,rfl⟩
   rw[t]at Q P
   have p:=Z t;clear t;by_cases M:c<128
   ·have d:=s.o;rw[hr.o,f.o.none hjk h c p.o (.inl M)]at d
    simp only[io]at d;obtain⟨rfl,rfl,rfl⟩:=d;go_wp2
    go_ret3;exact⟨rfl,rfl⟩
   ·by_cases N:191<c
    ·have d:=s.o;rw[hr.o,f.o.none hjk h c p.o (.inr N)]at d
     simp only[io]at d;obtain⟨rfl,rfl,rfl⟩:=d;go_wp2
     go_ret3;exact⟨rfl,rfl⟩
    ·have q:=Z (f.o.next hjk h c p.o (by omega) (by omega));go_wp2
     go_round
     case rel=>exact⟨_,_,_,_,_,⟨rfl,rfl,rfl,v'*64+c-128,rfl,j+1,rfl,q⟩,rfl,rfl,rfl,by congr 1;omega,by congr 1⟩
     case measure=>simp[intOf];omega
  ·have D:=Z (f.o.done hjk);go_wp2
   go_loop [12,13,14] (fun a b j=>∃lo hi m:Nat,a=.int .i64 lo/\b=.int .i64 hi/\j=.int .i64 m/\G (pJ n0 k v' m lo hi)) (fun _ _ j=>n0-(intOf j).toNat)
   case atStart=>exact⟨v',v',k,rfl,rfl,rfl,Z (pJ.start n0 k v' y W)⟩
   case round =>
    obtain⟨lo,R,B,rfl,rfl,rfl,r⟩:=hrel;obtain⟨ah,aa⟩:=r.o.le u z;rcases ak B n0 with hjn|hjn
    ·have q:=Z (r.o.next hjn);go_wp2
     go_round
     case rel=>exact⟨lo*64,R*64+63,B+1,by go_num,by go_num,by go_num,q⟩
     case measure=>simp[intOf];omega
    ·have E:=Z (r.o.done hjn);have d:=s.o;rw[hr.o,D.o]at d
     simp only at d;rw[E.o]at d
     simp only[io]at d;obtain⟨d,rfl,rfl⟩:=d;have F:=Z d;clear d;go_wp2_with (go_at_call 181;refine(aJf n z _).mono ?_;rintro e w' ⟨rfl,rfl⟩)
     all_goals
      go_ret3;refine⟨aPV ?_ rfl rfl,rfl⟩;rw[F.o,ba];simp;omega
theorem wA (g c cap i k:Nat)(b:Bool)(n v:Nat)(L:U)(w:H)(l:G (cP w g c L))(hi:i<L.length)(m:L.length<=140737488355328)(p:1<=k)(q:k<=4)(hr:G (begins (aL (L.drop i)) k=(b,n,v))) :
  Y 141 #[.slice (some ⟨g,c,none⟩) L.length cap,.int .i64 i,.int .i64 k] w fun e w'=>e=.returned (.tuple #[.bool b,.int .i64 n,.int .i64 v])/\w=w':=by
 obtain⟨h,j⟩:=aQe (L[i]'hi).toNat (L[i]'hi).toNat_lt;obtain⟨n0,d,a⟩:∃n0 d,PU8.size (L[i]'hi).toNat=(n0,d):=⟨_,_,rfl⟩
 rw[a]at h j
 by_cases r:n0=0\/n0<k\/L.length<i+k
 ·have s:begins (aL (L.drop i)) k=(false,0,0):=by
   have hlen:(aL (L.drop i)).length=L.length-i:=by unfold aL;rw[dw,bn]
   have t:(aL (L.drop (i+1))).length=L.length-(i+1):=by unfold aL;rw[dw,bn]
   rw[aA3 L i hi];unfold begins;simp only[a];rw[ae (by simp only[bw];omega)]
  have f:=hr.o;rw[s]at f
  simp only[io]at f;obtain⟨rfl,rfl,rfl⟩:=f;exact aGy g c cap i k n0 d L w l hi m p q (Z a) h r
 ·exact aGz g c cap i k n0 d b n v L w l hi m p q (Z a) h j (by omega) (by omega) (by omega) hr
open Go.RowKit PU8
theorem aPX {x y:Bool}{a b c d:Int}(h:a=c)(f:b=d)(e:x=y):Ending.returned (.tuple #[.int .i64 a,.int .i64 b,.bool x])=.returned (.tuple #[.int .i64 c,.int .i64 d,.bool y]):=by rw[e,h,f]
structure kM (b:List Nat) (k m:Nat):Prop where
 lo:1<=k
 hi:k<=5
 o:pieceU b=pieceFrom b (5-k) k m
theorem kM.hit {b:List Nat}{k m v:Nat}(h:kM b k m)(c:k<5)(a:begins b k=(true,k,v)):pieceU b=(k,v,true):=by
 rw[h.o,show 5-k=(5-(k+1))+1 from by omega];unfold pieceFrom;rw[a,ae ⟨rfl,rfl⟩]
theorem kM.some {b:List Nat}{k m n v:Nat}(h:kM b k m)(e:k<5)(a:begins b k=(true,n,v))(d:n≠k):kM b (k+1) k:=by
 have f:=h.lo;refine⟨by omega,by omega,?_⟩;rw[h.o,show 5-k=(5-(k+1))+1 from by omega];conv=>lhs;unfold pieceFrom
 rw[a,ac (fun c=>d c.2),ae rfl]
theorem kM.no {b:List Nat}{k m n v:Nat}(h:kM b k m)(d:k<5)(a:begins b k=(false,n,v)):kM b (k+1) m:=by
 have e:=h.lo;refine⟨by omega,by omega,?_⟩;rw[h.o,show 5-k=(5-(k+1))+1 from by omega];conv=>lhs;unfold pieceFrom
 rw[a,ac (fun c=>by cases c.1),ac (by simp)]
theorem kM.done {b:List Nat}{k m:Nat}(h:kM b k m)(a:5<=k):pieceU b=(m,0xfffd,false):=by
 rw[h.o,show 5-k=0 from by omega];rfl
theorem aJg (g f cap i:Nat)(n v:Nat)(t:Bool)(L:U)(w:H)(q:G (cP w g f L))(hi:i<L.length)(r:L.length<=140737488355328)(hr:G (pieceU (aL (L.drop i))=(n,v,t))) :
  Y 82 #[.slice (some ⟨g,f,none⟩) L.length cap,.int .i64 i] w fun e w'=>e=.returned (.tuple #[.int .i64 n,.int .i64 v,.bool t])/\w=w':=by
 go_enter Tryz.func82,Tryz.ntmps82
 go_wp2
 go_loop [4,5,6,7,8] (fun y z A m k=>y=.int .i64 0/\z=.int .i64 0/\A=.bool false/\∃x u:Nat,m=.int .i64 x/\k=.int .i64 u/\G (kM (aL (L.drop i)) u x)) (fun _ _ _ _ k=>5-(intOf k).toNat)
 case atStart=>exact⟨rfl,rfl,rfl,1,1,rfl,rfl,Z ⟨ag _,by omega,rfl⟩⟩
 case round =>
  obtain⟨rfl,rfl,rfl,m,k,rfl,rfl,c⟩:=hrel;have B:=c.o.lo;have C:=c.o.hi;rcases ak k 5 with d|d
  ·obtain⟨p,n0,h,a⟩:∃p n0 h,begins (aL (L.drop i)) k=(p,n0,h):=⟨_,_,_,rfl⟩
   have j:=Z a;cases p with
   | true =>
    by_cases s:n0=k
    ·subst s;have b:=c.o.hit d a;rw[hr.o]at b
     simp only[io]at b;obtain⟨rfl,rfl,rfl⟩:=b;clear a;go_wp2_with (go_at_call 141;refine(wA g f cap i n true n v L _ q hi r (by omega) (by omega) j).mono ?_;rintro e w' ⟨rfl,rfl⟩)
     go_ret3;exact⟨rfl,rfl⟩
    ·have l:=Z (c.o.some d a s);have D:((n0:Int)==(k:Int))=false:=by rw[ai];omega
     clear a;go_wp2_with (go_at_call 141;refine(wA g f cap i k true n0 h L _ q hi r (by omega) (by omega) j).mono ?_;rintro e w' ⟨rfl,rfl⟩)
     go_round
     case rel=>exact⟨rfl,rfl,rfl,k,k+1,rfl,by go_num,l⟩
     case measure=>simp[intOf];omega
   | false =>
    have l:=Z (c.o.no d a);clear a;go_wp2_with (go_at_call 141;refine(wA g f cap i k false n0 h L _ q hi r (by omega) (by omega) j).mono ?_;rintro e w' ⟨rfl,rfl⟩)
    go_round
    case rel=>exact⟨rfl,rfl,rfl,m,k+1,rfl,by go_num,l⟩
    case measure=>simp[intOf];omega
  ·have b:=c.o.done d;rw[hr.o]at b
   simp only[io]at b;obtain⟨rfl,rfl,rfl⟩:=b;go_wp2
   go_ret3;exact⟨aPX rfl (by simp) rfl,rfl⟩
open Go.RowKit PU8
theorem nE (l:List Nat)(h:∀n∈l,n<256):Lib.byteCells (l.map UInt8.ofNat)=l.map (fun n=>Value.int .u8 (n:Nat)):=by
 unfold Lib.byteCells;rw[pu];apply px;intro n a;simp only[Function.comp_apply];rw[ofN n (h n a)]
def zS (w:H)(n:Nat)(arr:Array Value)(e:Ending)(w':H):Prop:=e=.returned (.slice (some ⟨w.heap.size,0,none⟩) n n)/\w'=w.alloc (.cells arr 5)
theorem aPQ (c:Nat)(h:c<128)(w:H)(arr:Array Value)(a:G (arr=#[.int .u8 c])):Y 132 #[.int .i64 c] w (zS w 1 arr):=by
 go_enter Tryz.func132,Tryz.ntmps132;go_wp2;go_ret;exact⟨rfl,by rw[a.o]⟩
theorem aPR (c:Nat)(b:128<=c)(h:c<2048)(w:H)(arr:Array Value)(a:G (arr=#[.int .u8 (192+(c:Int) / 64),.int .u8 (128+(c:Int)%64)])):Y 132 #[.int .i64 c] w (zS w 2 arr):=by
 go_enter Tryz.func132,Tryz.ntmps132;go_wp2;go_ret;exact⟨rfl,by rw[a.o]⟩
theorem aPS (c:Int)(b:2048<=c)(h:c<65536)(w:H)(arr:Array Value)(a:G (arr=#[.int .u8 (224+c / 4096),.int .u8 (128+c / 64%64),.int .u8 (128+c%64)])):Y 132 #[.int .i64 c] w (zS w 3 arr):=by
 go_enter Tryz.func132,Tryz.ntmps132;go_wp2;go_ret;exact⟨rfl,by rw[a.o]⟩
theorem aPT (c:Int)(b:65536<=c)(h:c<=1114111)(w:H)(arr:Array Value)(a:G (arr=#[.int .u8 (240+c / 262144),.int .u8 (128+c / 4096%64),.int .u8 (128+c / 64%64),.int .u8 (128+c%64)])):Y 132 #[.int .i64 c] w (zS w 4 arr):=by
 go_enter Tryz.func132,Tryz.ntmps132;go_wp2;go_ret;exact⟨rfl,by rw[a.o]⟩
theorem aI7 (c:Nat)(h:c<=1114111)(w:H):Y 132 #[.int .i64 c] w (zS w (bA c).length (Lib.byteCells (bA c)).toArray):=by
 unfold bA;by_cases a:c<128;{have f:encN c=[c]:=by{unfold encN;rw[ae a]};rw[f];refine aPQ c a w _ ?_;show _=_;rw[nE _ (by simp;omega)];rfl};by_cases b:c<2048;{rw[enc_two c (by omega) b];refine aPR c (by omega) b w _ ?_;show _=_;rw[nE _ (by simp;omega)];have E1:((192+c / 64:Nat):Int)=192+(c:Int) / 64:=by{omega};have E3:((128+c%64:Nat):Int)=128+(c:Int)%64:=by{omega};simp only[co,fj,E1,E3]};by_cases e:c<65536;{rw[enc_three c (by omega) e];refine aPS c (by omega) (by omega) w _ ?_;show _=_;rw[nE _ (by simp;omega)];have E1:((224+c / 4096:Nat):Int)=224+(c:Int) / 4096:=by{omega};have E2:((128+c / 64%64:Nat):Int)=128+(c:Int) / 64%64:=by{omega};have E3:((128+c%64:Nat):Int)=128+(c:Int)%64:=by{omega};simp only[co,fj,E1,E2,E3]};{rw[enc_four c (by omega)];refine aPT c (by omega) (by omega) w _ ?_;show _=_;rw[nE _ (by simp;omega)];have E1:((240+c / 262144:Nat):Int)=240+(c:Int) / 262144:=by{omega};have E2:((128+c / 4096%64:Nat):Int)=128+(c:Int) / 4096%64:=by{omega};have E3:((128+c / 64%64:Nat):Int)=128+(c:Int) / 64%64:=by{omega};have d:((128+c%64:Nat):Int)=128+(c:Int)%64:=by{omega};simp only[co,fj,E1,E2,E3,d]}
open Go.RowKit PU8
def pZ (r:Nat):Value:=.int .i32 (r:Nat)
theorem Tryz.info21:(Tryz.prog.info? 21).map (fun i=>(i.zero,i.size,i.bytes))=some (some (.int .i32 0),1,4):=by kernel_rfl
theorem aO2 {L:U}{k:Nat}(h:k<L.length):L.drop k≠[]:=by
 intro e;have:=az List.length e;rw[bn]at this;simp at this;omega
structure sL (L:U) (k:Nat) (rs:List Nat):Prop where
 le:k<=L.length
 len:rs.length<=k
 o:rs++fZ (L.drop k)=fZ L
theorem sL.start (L:U):sL L 0 []:=⟨ax _,ag _,rfl⟩
theorem sL.next {L:U}{k:Nat}{f:List Nat}{n v:Nat}{t:Bool}(h:sL L k f)(i:k<L.length)(j:pieceU (aL (L.drop k))=(n,v,t)):1<=n/\k+n<=L.length/\v<=1114111/\sL L (k+n) (f++[v]):=by
 have a:=aO2 i;have b:=rU _ a;have e:=aEt _ a;have c:=aEu _ a;have g:=aH6 _ a;have d:=qA _ a;rw[j]at b e c d;simp only at b e c d;rw[bn]at g;refine⟨b,by omega,c.2,by omega,?_,?_⟩;{have:=h.len;simp;omega};{rw[ct,lc,<-jd,<-d];exact h.o}
theorem sL.done {L:U}{k:Nat}{a:List Nat}(h:sL L k a)(b:L.length<=k):a=fZ L:=by
 have:=h.o;rw[d6 b,aAv,dc]at this;exact this
def aD9 (L:U)(w:H)(e:Ending)(w':H):Prop:=∃v,e=.returned v/\aJ w.heap.size 21 1 v (fZ L).length ((fZ L).map pZ) w w'
theorem aJi (g c cap:Nat)(L:U)(w:H)(m:G (cP w g c L))(r:g<w.heap.size)(A:L.length<=1000000000) :
  Y 78 #[.slice (some ⟨g,c,none⟩) L.length cap] w (aD9 L w):=by
 obtain⟨z,hi,u,x,y⟩:=cq Tryz.info21;go_enter Tryz.func78,Tryz.ntmps78;go_wp2;go_loopw [3,4] (fun o i wx=>∃(k:Nat) (a:List Nat),i=.int .i64 k/\G (sL L k a)/\G (aJ w.heap.size 21 1 o a.length (a.map pZ) w wx)) (fun _ i _=>L.length-(intOf i).toNat);case atStart=>exact⟨0,[],rfl,Z (sL.start L),Z (aJ.nil w 21 1)⟩
 case round =>obtain⟨k,a,rfl,b,d⟩:=hrel;have B:=b.o.le;have C:=b.o.len;rcases ak k L.length with hlt|s;{have p:G (cP wr g c L):=m.o.below d.o.bel r;obtain⟨n,v,t,f⟩:∃n v t,pieceU (aL (L.drop k))=(n,v,t):=⟨_,_,_,rfl⟩;obtain⟨D,hn2,hv,h⟩:=b.o.next hlt f;have HN:=Z h;have l:=Z f;clear f h;go_wp2_with fail;refine(aJg g c cap k n v t L wr p hlt (by omega) l).mono ?_;rintro e w' ⟨rfl,rfl⟩;go_wp2_with (at_builtin;refine bE (by rfl) _ _ 85 (by rfl) 21 z (.int .i32 0) 1 4 Tryz.underlying85 hi u x y rfl (by decide) _ _ _ rfl d.o #[.int .i32 v] rfl rfl rfl rfl (by omega) (by omega) ?_);intro v' w' q _;go_wp2;go_roundw;(case rel=>exact⟨k+n,a++[v],by go_num,HN,Z (q.o.cast (by simp) (by simp[pZ]))⟩);case measure=>simp[intOf];omega};{have j:=Z (b.o.done s);go_wp2;go_ret;exact⟨_,rfl,by rw[<-j.o];exact d.o⟩}
open Go.RowKit PU8
structure xJ (rs:List Nat) (k:Nat) (bs:U):Prop where
 le:k<=rs.length
 len:bs.length<=4*k
 o:bs=(rs.take k).flatMap bA
theorem xJ.start (a:List Nat):xJ a 0 []:=⟨ax _,ag _,rfl⟩
theorem xJ.next {a:List Nat}{k:Nat}{b:U}(h:xJ a k b)(c:k<a.length):xJ a (k+1) (b++bA a[k]):=by
 refine⟨c,?_,?_⟩;{have:=h.len;have:=(tN a[k]).2;simp;omega};{rw[fw c,qh,<-h.o];simp}
theorem aPo (w:H)(cs:List Value)(E:TypeId):∀j u,cs[j]?=some u->(w.alloc (.cells cs.toArray E)).cell? ((⟨w.heap.size,0,none⟩:Addr).add j)=some u:=by
 intro j u b;have a:(⟨w.heap.size,0,none⟩:Addr).add j=⟨w.heap.size,j,none⟩:=by{unfold Addr.add;split<;>simp_all};rw[a,aq _ _ j cs.toArray E (0,0) (bi w _)];simpa using b
theorem aEQ (L:U):(Lib.byteCells L).all (fun u=>u.oneCell')=true:=di.2 (zJ L)
theorem aHv (b:List Nat)(z:G (∀r∈b,Val r))(M:b.length<=1000000000)(v:Value)(w:H)(l:G (lD w v b.length (b.map pZ))) :
  Y 79 #[v] w (O (.string ⟨(b.flatMap bA).toArray⟩) w):=by
 obtain⟨D,hi,A,B,C⟩:=cq Tryz.info5;obtain⟨a,c,rfl,_⟩:=l.o;go_enter Tryz.func79,Tryz.ntmps79;go_wp2;go_loopw [3,4] (fun o i wx=>∃(k:Nat) (d:U),i=.int .i64 k/\G (xJ b k d)/\G (aJ w.heap.size 5 1 o d.length (Lib.byteCells d) w wx)) (fun _ i _=>b.length-(intOf i).toNat);case atStart=>exact⟨0,[],rfl,Z (xJ.start b),Z (aJ.nil w 5 1)⟩
 case round =>obtain⟨k,d,rfl,h,f⟩:=hrel;have K:=h.o.le;have L:=h.o.len;rcases ak k b.length with hlt|J;{obtain⟨g,off,c',hva,n⟩:=(l.o.below f.o.bel (ag _)).get k (by simpa using hlt);simp only[cg,fy]at hva;obtain⟨rfl,rfl⟩:=hva;rw[oe]at n;have j:=z.o b[k] (fl hlt);have HN:=Z (h.o.next hlt);have y:=j.2;have q:=Z j;have p:=Z (tN b[k]);generalize b[k]=r at *;unfold pZ at n;clear j;have F:=p.o.2;go_wp2_with fail;refine(aLo r q.o wr).mono ?_;rintro e w' ⟨rfl,rfl⟩;go_wp2_with fail;refine(aI7 r y wr).mono ?_;rintro e w' ⟨rfl,rfl⟩;go_wp2_with (at_builtin;refine nW (by rfl) _ _ 35 (by rfl) 5 D (.int .u8 0) 1 1 Tryz.underlying35 hi A B C rfl (by decide) _ _ _ rfl (f.o.alloc _) ⟨wr.heap.size,0,none⟩ (bA r).length (bA r).length (Lib.byteCells (bA r)) rfl (by rw[jK,du]) (aPo wr _ 5) (aEQ _) (by omega) (by omega) ?_);intro v' w' u _;go_wp2;go_roundw;(case rel=>exact⟨k+1,d++bA r,by go_num,HN,Z (u.o.cast (by simp) (lE _ _))⟩);case measure=>simp[intOf];omega};{have x:k=b.length:=by{omega};have m:d=b.flatMap bA:=by{have:=h.o.o;rw[x,jm]at this;exact this};have s:=Z m;obtain⟨t,c1,rfl,_,_⟩:=f.o.slice;have E:=rX (P:=Tryz.prog) wr 35 5 9 Tryz.underlying35 Tryz.underlying5 Tryz.underlying9 t d d.length c1 rfl (f.o.isB rfl);clear m;go_wp2;go_ret;refine⟨?_,f.o.bel⟩;rw[s.o];rfl}
