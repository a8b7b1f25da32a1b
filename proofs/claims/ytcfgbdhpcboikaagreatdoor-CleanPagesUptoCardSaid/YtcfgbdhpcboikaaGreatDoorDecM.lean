/-
The slow decimals in memory: a block that holds one; trim; prefixIsLessThan.
-/
import Derived.Test.YtcfgbdhpcboikaaGreatDoorBase
import Derived.Test.YtcfgbdhpcboikaaGreatDoorDecLaw
import GoSem.PinnedTables
namespace Go.Proofs.YtcfgbdhpcboikaaGreatDoor
set_option maxHeartbeats 8000000
set_option maxRecDepth 100000
open Go.RowKit
def mI (s:Dec.Dc):List Value:=s.D.map dW++[.int .i64 s.nd,.int .i64 s.dp,.bool s.neg,.bool s.trunc]
structure aF (w:H) (B:Nat) (s:Dec.Dc):Prop where
 h:w.heap[B]?=some (.cells (mI s).toArray 234 (0,0))
 len:s.D.length=800
section
variable {w:H} {B:Nat} {s:Dec.Dc}
theorem aF.byte (h:aF w B s)(i:Nat)(hi:i<s.D.length):w.cell? ⟨B,i,none⟩=some (.int .u8 (s.D[i].toNat:Nat)):=by
 rw[aq w B i _ _ _ h.h];unfold mI;rw[ld,jv,ae (by rw[dw];exact hi),gv,bc hi];rfl
theorem aF.tail (h:aF w B s)(j:Nat):w.cell? ⟨B,800+j,none⟩=[Value.int .i64 s.nd,.int .i64 s.dp,.bool s.neg,.bool s.trunc][j]?:=by
 rw[aq w B _ _ _ _ h.h];unfold mI;rw[ld,jv,ac (by rw[dw,h.len];omega),dw,h.len,show 800+j-800=j by omega]
theorem aF.nd (h:aF w B s):w.cell? ⟨B,800,none⟩=some (.int .i64 s.nd):=h.tail 0
theorem aF.dp (h:aF w B s):w.cell? ⟨B,801,none⟩=some (.int .i64 s.dp):=h.tail 1
theorem aF.neg (h:aF w B s):w.cell? ⟨B,802,none⟩=some (.bool s.neg):=h.tail 2
theorem aF.trunc (h:aF w B s):w.cell? ⟨B,803,none⟩=some (.bool s.trunc):=h.tail 3
theorem aF.fz (h:aF w B s)(j:Nat):w.frozen? ⟨B,j,none⟩=false:=pq w B j _ _ h.h
theorem aF.lt (h:aF w B s):B<w.heap.size:=(d8.1 h.h).1
theorem aF.same {w':H}(h:aF w B s)(e:w'.heap=w.heap):aF w' B s:=⟨by rw[e];exact h.h,h.len⟩
theorem aF.drewN (h:aF w B s)(n:Nat):aF (w.drewN n) B s:=h.same rfl
theorem aF.kept {w':H}{S:Nat->Prop}(h:aF w B s)(k:aG S w w')(a:¬S B):aF w' B s:=⟨k.heap h.h a,h.len⟩
theorem aF.setByte (h:aF w B s)(i:Nat)(hi:i<800)(c:UInt8)(v:Int)(a:v=(c.toNat:Nat)):aF (w.setCell ⟨B,i,none⟩ (.int .u8 v)) B { s with D:=s.D.set i c }:=by
 subst a;refine⟨?_,by rw[nl];exact h.len⟩;rw[iw _ _ _ _ _ _ h.h];congr 2;apply pg.1;unfold mI;rw[rq,List.set_append,ae (by rw[dw,h.len];exact hi)];simp only[List.map_set];rfl
theorem mJ (s a:Dec.Dc)(b:s.D.length=800)(c:a.D=s.D)(j:Nat)(v:Value)
  (h:[Value.int .i64 s.nd,.int .i64 s.dp,.bool s.neg,.bool s.trunc].set j v=[Value.int .i64 a.nd,.int .i64 a.dp,.bool a.neg,.bool a.trunc]) :
  (mI s).toArray.setIfInBounds (800+j) v=(mI a).toArray:=by
 apply pg.1;unfold mI;rw[rq,List.set_append,ac (by rw[dw,b];omega),dw,b,show 800+j-800=j by omega,h,c]
theorem aF.setNd (h:aF w B s)(n:Nat):aF (w.setCell ⟨B,800,none⟩ (.int .i64 n)) B { s with nd:=n } :=
 ⟨by rw[iw _ _ _ _ _ _ h.h,mJ s { s with nd:=n } h.len rfl 0 _ rfl],h.len⟩
theorem aF.setNdV (h:aF w B s)(n:Nat)(v:Int)(a:v=(n:Nat)):aF (w.setCell ⟨B,800,none⟩ (.int .i64 v)) B { s with nd:=n }:=by
 subst a;exact h.setNd n
theorem aF.setDpV (h:aF w B s)(n v:Int)(a:v=n):aF (w.setCell ⟨B,801,none⟩ (.int .i64 v)) B { s with dp:=n }:=by
 subst a;exact⟨by rw[iw _ _ _ _ _ _ h.h,mJ s { s with dp:=v } h.len rfl 1 _ rfl],h.len⟩
theorem aF.setDp (h:aF w B s)(n:Int):aF (w.setCell ⟨B,801,none⟩ (.int .i64 n)) B { s with dp:=n } :=
 ⟨by rw[iw _ _ _ _ _ _ h.h,mJ s { s with dp:=n } h.len rfl 1 _ rfl],h.len⟩
theorem aF.setNeg (h:aF w B s)(b:Bool):aF (w.setCell ⟨B,802,none⟩ (.bool b)) B { s with neg:=b } :=
 ⟨by rw[iw _ _ _ _ _ _ h.h,mJ s { s with neg:=b } h.len rfl 2 _ rfl],h.len⟩
theorem aF.setTr (h:aF w B s)(b:Bool):aF (w.setCell ⟨B,803,none⟩ (.bool b)) B { s with trunc:=b } :=
 ⟨by rw[iw _ _ _ _ _ _ h.h,mJ s { s with trunc:=b } h.len rfl 3 _ rfl],h.len⟩
end
def aMg (B:Nat)(s:Dec.Dc)(w:H)(e:Ending)(w':H):Prop:=e=.returned (.tuple #[])/\aF w' B (Dec.trimD s)/\aG (· = B) w w'
theorem aB4 (B:Nat)(s:Dec.Dc)(w:H)(h:aF w B s)(M:s.nd<=800) :
  Y 287 #[.pointer (some ⟨B,0,none⟩)] w (aMg B s w):=by
 have v:=Z h;have L:=Z h.len;clear h;go_enter Tryz.func287,Tryz.ntmps287;go_wp2_with fail;go_loopg [] s.nd (fun g wr=>∃k:Nat,g=k/\k<=s.nd/\aF wr B { s with nd:=k }/\Dec.trimL (s.D.take k)=Dec.trimL (s.D.take s.nd)/\aG (· = B) w wr);case atStart=>exact⟨s.nd,rfl,ag _,v.o,rfl,aG.refl _ _⟩
 case round =>obtain⟨k,u,C,hd,n,l⟩:=hrel;have x:=Z u;clear u;have J:=hd.fz 800;have K:=hd.fz 801;have F:wr.cell? ⟨B,801,none⟩=some (.int .i64 s.dp):=hd.dp;have d:=Z hd;have j:=Z n;have f:=Z l;by_cases r:k=0;{subst r;have y:wr.cell? ⟨B,800,none⟩=some (.int .i64 0):=hd.nd;clear hd n l C;go_wp2_with fail;go_quiet (fail);go_wp2;go_end0;have p:Dec.trimL (s.D.take s.nd)=0:=j.o.symm;have e:Dec.trimD s={ ({ s with nd:=0 }:Dec.Dc)with dp:=0 }:=by{unfold Dec.trimD;rw[p,ae rfl]};refine⟨rfl,?_,(f.o.drewN _).setCell _ _ (fun _=>rfl)⟩;rw[e];exact(d.o.drewN _).setDp 0};{obtain⟨i,rfl⟩:∃i,k=i+1:=⟨k-1,by omega⟩;have hi:i<s.D.length:=by{rw[L.o];omega};have y:wr.cell? ⟨B,800,none⟩=some (.int .i64 ((i:Int)+1)):=by{have:=hd.nd;simpa using this};have z:wr.cell? ⟨B,i,none⟩=some (.int .u8 (s.D[i].toNat:Nat)):=hd.byte i hi;obtain⟨c,m⟩:∃c,s.D[i]=c:=⟨_,rfl⟩;rw[m]at z;have t:s.D[i]?=some c:=by{rw[bc hi,m]};have q:=Z t;have N:i<800:=by{omega};clear hd n l m t hi r;by_cases a:c=48;{have A:((c.toNat:Int)==48)=true:=by{rw[a];rfl};have b:=Z a;clear a;have E:IntKind.i64.wrap ((i:Int)+1-1)=i:=by{rw[IntWalk.i64_in _ (by omega)];omega};go_wp2_with fail;go_quiet (fail);go_wp2;go_roundg i;(case measure=>have:=x.o;omega);case rel=>exact⟨i,rfl,by omega,(d.o.drewN _).setNd i,(Dec.trimL_take s.D i c q.o b.o).symm.trans j.o,(f.o.drewN _).setCell _ _ (fun _=>rfl)⟩};{have A:((c.toNat:Int)==48)=false:=ai.2 (by intro e;exact a (dx.1 (by show _=48;omega)));have b:=Z a;clear a;have E:IntKind.i64.wrap ((i:Int)+1-1)=i:=by{rw[IntWalk.i64_in _ (by omega)];omega};go_wp2_with fail;go_quiet (fail);go_wp2;go_end0;have p:Dec.trimL (s.D.take s.nd)=i+1:=j.o.symm.trans (Dec.trimL_stop s.D i c q.o b.o);have e:Dec.trimD s={ s with nd:=i+1 }:=by{unfold Dec.trimD;rw[p,ac (by omega)]};refine⟨rfl,?_,f.o.drewN _⟩;rw[e];exact d.o.drewN _}}
open Go.RowKit
def nT (l:U):List Nat:=l.map UInt8.toNat
theorem aAn (l:U)(k:Nat)(c:UInt8)(h:l[k]?=some c):(nT l).drop k=c.toNat :: (nT l).drop (k+1):=by
 obtain⟨a,e⟩:=fc.1 h;unfold nT;rw[<-List.map_drop,<-List.map_drop,dy a,e];rfl
theorem aGg (l:U)(k:Nat)(h:l.length<=k):(nT l).drop k=[]:=d6 (by unfold nT;rw[dw];exact h)
theorem yX {a b:Bool}(h:a=b):Ending.returned (.bool a)=.returned (.bool b):=by rw[h]
theorem aLh (B n c:Nat)(d:Dec.Dc)(s:I)(w:H)(h:aF w B d)(P:n<=800)(_hs:s.size<=1000) :
  Y 296 #[.slice (some ⟨B,0,none⟩) n c,.string s] w fun e w'=>e=.returned (.bool (Dec.less (nT (d.D.take n)) (nT s.data.toList)))/\∃m,w'=w.drewN m:=by
 have C:=Z h;have L:=Z h.len;obtain⟨r,hr⟩:∃r,Dec.less (nT (d.D.take n)) (nT s.data.toList)=r:=⟨_,rfl⟩
 have F:=Z hr;rw[hr];clear h hr;go_enter Tryz.func296,Tryz.ntmps296
 go_wp2_with fail
 go_loopw [5] (fun i wr=>∃k m:Nat,k<=s.size/\i=.int .i64 k/\Dec.less ((nT (d.D.take n)).drop k) ((nT s.data.toList).drop k)=r/\wr=w.drewN m) (fun i _=>s.size-(intOf i).toNat)
 case atStart=>exact⟨0,0,ax _,rfl,F.o,rfl⟩
 case round =>
  obtain⟨k,m,N,rfl,y,v⟩:=hrel;have E:G (aF wr B d):=by rw[v];exact C.o.drewN m
  have l:=Z v;have j:=Z y;clear v y;by_cases A:k<s.size
  ·by_cases M:k<n
   ·have u:k<d.D.length:=by rw[L.o];omega
    have J:wr.cell? ⟨B,k,none⟩=some (.int .u8 (d.D[k].toNat:Nat)):=E.o.byte k u;obtain⟨b,t⟩:∃b,d.D[k]=b:=⟨_,rfl⟩
    rw[t]at J
    have x:(d.D.take n)[k]?=some b:=by rw[gg,ae M,bc u,t]
    have f:s.data.toList[k]?=some s[k]:=by rw[bc (by simpa using A)];rfl
    have g:=Z (aAn _ _ _ x);have a:=Z (aAn _ _ _ f);clear x f t u;by_cases p:b.toNat=s[k].toNat
    ·have K:((b.toNat:Int) !=(s[k].toNat:Int))=false:=ir.2 (by omega);have q:=Z p;clear p;go_wp2_with fail
     go_quiet (fail)
     go_wp2
     go_roundw
     case measure=>simp[intOf];omega
     case rel =>
      refine⟨k+1,m+nq,by omega,by go_num,?_,?_⟩
      ·rw[<-j.o,g.o,a.o];show _=(if b.toNat=s[k].toNat then _ else _)
       rw[ae q.o]
      ·rw[l.o,rr]
    ·have K:((b.toNat:Int) !=(s[k].toNat:Int))=true:=db.2 (by omega);have q:=Z p;clear p;go_wp2_with fail
     go_quiet (fail)
     go_wp2_with fail
     go_quiet (fail)
     go_wp2
     go_ret;refine⟨yX ?_,_,by rw[l.o,rr,rr]⟩;rw[<-j.o,g.o,a.o];show _=(if b.toNat=s[k].toNat then _ else _)
     rw[ac q.o]
   ·have z:(d.D.take n).length<=k:=by rw[br];omega
    have g:=Z (aGg _ _ z);have f:s.data.toList[k]?=some s[k]:=by rw[bc (by simpa using A)];rfl
    have a:=Z (aAn _ _ _ f);clear f z;go_wp2
    go_ret;refine⟨yX ?_,m,l.o⟩;rw[<-j.o,g.o,a.o];rfl
  ·have a:=Z (aGg s.data.toList k (by show s.size<=k;omega));go_wp2
   go_ret;refine⟨yX ?_,m,l.o⟩;rw[<-j.o,a.o];cases (nT (d.D.take n)).drop k<;>rfl
theorem aIU (x y:List Nat):Dec.less (x.map (· + 48)) (y.map (· + 48))=Dec.less x y:=by
 induction x generalizing y with|nil=>{cases y<;>rfl}|cons a x ih=>{cases y with|nil=>rfl|cons b y=>{show(if a+48=b+48 then _ else _)=(if a=b then _ else _);by_cases h:a=b;{rw[ae (by omega),ae h];exact ih y};{rw[ac (by omega),ac h];by_cases g:a<b;{rw[bu g,bu (show a+48<b+48 by omega)]};{rw[bp g,bp (show ¬a+48<b+48 by omega)]}}}}
theorem aNk (s:Dec.Dc)(h:Dec.Fine s):nT (s.D.take s.nd)=(Dec.dgs s.D s.nd).map (· + 48):=by
 unfold nT Dec.dgs;rw[pu];refine px fun c a=>?_;have:=h.dig c a;show c.toNat=Dec.un c+48;unfold Dec.un;omega
theorem aJ9:∀k<61,k≠0->(Pinned.cheatRows.getD k (0,[])).1=Dec.more k/\nT (Pinned.cheatRows.getD k (0,[])).2=(Dec.cut k).map (· + 48)/\(Pinned.cheatRows.getD k (0,[])).2.length<=60:=by decide +kernel
open Go.RowKit
structure pI (w:H) (B:Nat):Prop where
 cheats:∃b o,b≠B/\w.cell? ⟨14,0,none⟩=some (.slice (some ⟨b,o,none⟩) 61 61)/\∀i,i<61->w.cell? ⟨b,o+i*2,none⟩=some (.int .i64 (Pinned.cheatRows.getD i (0,[])).1)/\w.cell? ⟨b,o+i*2+1,none⟩=some (.string ⟨(Pinned.cheatRows.getD i (0,[])).2.toArray⟩)
 p2:∃b o,b≠B/\w.cell? ⟨11,0,none⟩=some (.slice (some ⟨b,o,none⟩) 9 9)/\∀i,i<9->w.cell? ⟨b,o+i,none⟩=some (.int .i64 (([1,3,6,9,13,16,19,23,26]:List Int).getD i 0))
 info0:w.cell? ⟨8,0,none⟩=some (.int .u64 52)
 info1:w.cell? ⟨8,1,none⟩=some (.int .u64 11)
 info2:w.cell? ⟨8,2,none⟩=some (.int .i64 (-1023))
 far:14<B
theorem pI.kept {w w':H}{B:Nat}(h:pI w B)(k:aG (· = B) w w'):pI w' B:=by
 obtain⟨b,o,a,g,d⟩:=h.cheats;obtain⟨f,r,e,j,l⟩:=h.p2;have n:=h.far;have c:∀ {p:Addr} {v:Value},w.cell? p=some v->p.block≠B->w'.cell? p=some v:=fun m q=>k.cell m q
 exact⟨⟨b,o,a,c g (show 14≠B by omega),fun i hi=>⟨c (d i hi).1 a,c (d i hi).2 a⟩⟩,⟨f,r,e,c j (show 11≠B by omega),fun i hi=>c (l i hi) e⟩,
  c h.info0 (show 8≠B by omega),c h.info1 (show 8≠B by omega),c h.info2 (show 8≠B by omega),n⟩
theorem aKS:Tryz.prog.arrayLen 232=800:=by kernel_rfl
theorem aLM (B n:Nat)(b:n<=800)(w:H):(Instr.sliceAt 232 (.pointer (some ⟨B,0,none⟩)) (some (.int .i64 0)) (some (.int .i64 n)) none).run Tryz.prog w=.ok (.slice (some ⟨B,0,none⟩) n 800) w:=by
 rw[run_sliceAt_array_lh w 232 ⟨B,0,none⟩ (by kernel_rfl) .i64 .i64 0 n (iq _) (by omega) (by rw[aKS];omega),aKS];have a:(sizeOf (Tryz.prog.elem 232)).run Tryz.prog w=.ok 1 w:=by{rw[show Tryz.prog.elem 232=5 by kernel_rfl];exact Tryz.sizeOf5 w};rw[a];simp[Result.andThen,slicedAt,Addr.add]
def mE (B:Nat)(s:Dec.Dc)(w:H)(e:Ending)(w':H):Prop:=e=.returned (.tuple #[])/\aF w' B s/\aG (· = B) w w'
theorem kK (z:Int):IntKind.u64.wrap z=z%18446744073709551616:=by
 have a:IntKind.u64.signed=false:=rfl;have b:IntKind.u64.bits=64:=rfl;unfold IntKind.wrap;simp only[a,b,ly,f9,gc];rfl
theorem aFs (k:Nat)(a:k<61):2^k<=1152921504606846976:=bg (cc (by decide) (show k<=60 by omega)) (by decide)
structure aQy (Y' q rm Z':Nat):Prop where
 e3:(Y':Int).tdiv 10=q
 e3':IntKind.u64.wrap (q:Int)=q
 e4:IntKind.u64.wrap (10*(q:Int))=Z'
 e5:IntKind.u64.wrap ((Y':Int)-Z')=rm
 r9:rm<=9
 hq:q=Y' / 10
 hr:rm=Y'%10
theorem aIb (a:Nat)(h:a<18446744073709551616):∃q b Z',aQy a q b Z':=by
 refine⟨a / 10,a%10,10*(a / 10),?_,?_,?_,?_,by omega,rfl,rfl⟩;{rw[Int.tdiv_eq_ediv_of_nonneg (by omega)];omega};{rw[kK];omega};{rw[kK];omega};{rw[kK];omega}
theorem aN2 (f n:Nat):Dec.steps f n<=f:=by
 induction f generalizing n with|zero=>simp[Dec.steps]|succ f ih=>{unfold Dec.steps;split<;>first|omega|(have:=ih (n / 10);omega)}
theorem aPr (B k:Nat)(s:Dec.Dc)(w:H)(T:pI w B)(h:aF w B s)(K:Dec.Fine s)(E:1<=s.nd)(k1:1<=k)(k2:k<61)(p1:-100000000<=s.dp)(p2:s.dp<=100000000) :
  Y 288 #[.pointer (some ⟨B,0,none⟩),.int .u64 k] w (mE B (Dec.lsh k s) w):=by
 obtain⟨b,o,hb,t1,t2⟩:=T.cheats;obtain⟨t3,t4⟩:=t2 k k2;obtain⟨r1,r2,r3⟩:=aJ9 k k2 (by omega);obtain⟨str,a0⟩:∃str:I,str=⟨(Pinned.cheatRows.getD k (0,[])).2.toArray⟩:=⟨_,rfl⟩;rw[<-a0]at t4;obtain⟨δ,hδ⟩:∃ δ,Dec.steps 25 (Dec.carry k (Dec.dgs s.D s.nd))=δ := ⟨_,rfl⟩;obtain⟨L,hL⟩:∃L,Dec.less (Dec.dgs s.D s.nd) (Dec.cut k)=L:=⟨_,rfl⟩;obtain⟨dd,dr,S,f2,_,f4,f5⟩:=Dec.fine_cons K E;have p:∀d∈Dec.dgs s.D s.nd,d<10:=by{rw[S];exact f4};have hlen:(Dec.dgs s.D s.nd).length=s.nd:=by{rw[S,bw];exact f5};have PL:∀u,aF u B s->Y 296 #[.slice (some ⟨B,0,none⟩) s.nd 800,.string str] u fun e w'=>e=.returned (.bool L)/\∃m,w'=u.drewN m:=by{intro u hu;have:=aLh B s.nd 800 s str u hu K.le (by rw[a0];show(Pinned.cheatRows.getD k (0,[])).2.length<=1000;omega);rw[aNk s K,show nT str.data.toList=(Dec.cut k).map (· + 48) by rw[a0];exact r2,aIU,hL]at this;exact this};have a8:=Dec.carry_25 k (Dec.dgs s.D s.nd) k2 p;have b1:(Pinned.cheatRows.getD k (0,[])).1=(if L then δ + 1 else δ):=by{have ft:=Dec.front_table (Dec.dgs s.D s.nd) k 25 k2 (by omega) p (by rw[S];simpa using f2) (by rw[S];simp) a8;obtain⟨_,_,_,_,_,g1,V⟩:=Dec.cuts k k2 (by omega);rw[hδ,hL]at ft;rw[r1];have hm:1<=Dec.more k:=by{unfold Dec.more;omega};cases L;{simpa using ft.symm};{simp at ft ⊢;omega}};have cp:=K.le;have cm:δ <= 25:=by{rw[<-hδ];exact aN2 25 _};have cz:=h.nd;have c2:=h.fz 800;have SL:=aLM B s.nd cp;have j:=Z h;have HF:=Z K;have cd:=Z PL;have bj:=Z hδ;have b6:=Z p;have bk:=Z hlen;have b4:=Z a8;rw[b1]at t3;have b3:∀m,∀d∈(Dec.dgs s.D s.nd).drop m,d<10:=fun m d hd=>p d (jk hd)
 have cb:=Z b3;clear h K PL r1 r2 r3 a0 T t2 hδ hL b1 p hlen a8 S f2 f4 f5 b3;cases L;all_goals
  simp only[f9,gc,fa]at t3;go_enter Tryz.func288,Tryz.ntmps288
  go_wp2_with fail
  go_quiet ((go_at_call 296;exact Calls.quiet_of (cd.o _ (j.o.drewN _))))
  go_wp2_with fail
  go_loopw [5,6,7] (fun r wv n wr=>∃m:Nat,m<=s.nd/\r=.int .i64 ((m:Int)-1)/\wv=.int .i64 ((m:Int)+δ)/\n=.int .u64 (Dec.carry k ((Dec.dgs s.D s.nd).drop m):Nat)/\aG (· = B) w wr /\
   aF wr B { s with D:=Dec.ow s.D (m+δ) ((Dec.lows k ((Dec.dgs s.D s.nd).drop m)).map Dec.ch),trunc:=s.trunc||Dec.over (m+δ) ((Dec.lows k ((Dec.dgs s.D s.nd).drop m)).map Dec.ch) }) (fun r _ _ _=>(intOf r+1).toNat)
  case atStart =>
   have e:(Dec.dgs s.D s.nd).drop s.nd=[]:=d6 (by rw[bk.o];omega);refine⟨s.nd,ag _,rfl,?_,by rw[e];rfl,(aG.refl _ w).drewN _,?_⟩
   ·first|rfl|exact az (Value.int .i64) (by unfold wrap64;omega)|exact az (Value.int .i64) (by omega)
   ·rw[e];have:=j.o.drewN nq;simpa [Dec.lows,Dec.ow_nil,Dec.over_nil]using this
  case round =>
   obtain⟨m,hm,hr,R,E,y,a⟩:=hrel;cases m with
   | zero =>
    obtain rfl:=(show _=Value.int .i64 (-1)from hr.trans (az (Value.int .i64) (by omega)))
    obtain rfl:=(show _=Value.int .i64 (δ : Int)from R.trans (az (Value.int .i64) (by omega)))
    rw[dt]at E a
    rw[be]at a
    obtain⟨Q,hQ⟩:∃Q,Dec.carry k (Dec.dgs s.D s.nd)=Q:=⟨_,rfl⟩
    rw[hQ]at E
    subst E;have HQ:=Z hQ;have ca:=Z y;have b5:=Z a;have b0:Q<18446744073709551616:=by
     have:=Dec.carry_lt k (Dec.dgs s.D s.nd) b6.o;have:=aFs k k2;omega
    have cj:=Z b0;clear y a hQ hr R b0;obtain⟨wo,rfl⟩:∃wo:H,wo=wr:=⟨_,rfl⟩
    go_wp2_with fail
    go_loopw [6,7] (fun wv n wr=>∃(f W q:Nat) (t:List Nat),wv=.int .i64 (W:Int)/\n=.int .u64 (q:Int)/\q<10^f/\Dec.steps f q=W/\W<=25/\q<18446744073709551616/\Dec.digs f q t=Dec.fullN k (Dec.dgs s.D s.nd)/\aG (· = B) w wr /\
     aF wr B { s with D:=Dec.ow s.D W (t.map Dec.ch),trunc:=s.trunc||Dec.over W (t.map Dec.ch) }) (fun wv _ _=>(intOf wv).toNat)
    case atStart =>
     refine⟨25,δ,Q,Dec.lows k (Dec.dgs s.D s.nd),rfl,rfl,?_,?_,cm,cj.o,?_,ca.o,b5.o⟩
     ·rw[<-HQ.o];exact b4.o
     ·rw[<-HQ.o];exact bj.o
     ·rw[<-HQ.o];rfl
    case round =>
     obtain⟨f,W,q,t,rfl,rfl,g1,V,g3,g4,g5,y,a⟩:=hrel;have HK:=Z y;have HD:=Z a;by_cases bh:q=0
     ·subst bh;have hz:∀g,Dec.steps g 0=0:=by intro g;cases g<;>simp[Dec.steps]
      have b2:∀g (l:List Nat),Dec.digs g 0 l=l:=by intro g l;cases g<;>simp[Dec.digs]
      rw[hz]at V
      subst V;rw[b2]at g5
      subst g5;have bf:((Dec.fullN k (Dec.dgs s.D s.nd)).map Dec.ch).length=s.nd+δ := by
       rw[dw,Dec.fullN_len,bj.o,bk.o];omega
      have cs:=Z bf;have c9:wr.cell? ⟨B,800,none⟩=some (.int .i64 s.nd):=a.nd;have dg:wr.cell? ⟨B,801,none⟩=some (.int .i64 s.dp):=a.dp;have dk:=a.fz 800;have dl:=a.fz 801;have bl:Dec.lshD k s={ ({ ({ s with D:=Dec.ow s.D 0 ((Dec.fullN k (Dec.dgs s.D s.nd)).map Dec.ch),trunc:=s.trunc||Dec.over 0 ((Dec.fullN k (Dec.dgs s.D s.nd)).map Dec.ch) }:Dec.Dc)with nd:=min (s.nd+δ) 800 }:Dec.Dc)with dp:=s.dp+δ }:=by
       unfold Dec.lshD Dec.fullL;rw[bf];simp only[Dec.Dc.mk.injEq,fy,gj];omega
      have ah:=Z bl;clear y a hz b2 g1 g3 g4 bf bl;by_cases c5:800<=s.nd+δ
      ·go_wp2_with fail
       refine(aB4 B (Dec.lshD k s) _ ?_ ?_).mono ?_
       ·rw[ah.o,show min (s.nd+δ) 800=800 by omega];exact((HD.o.setNdV (s.nd+δ) _ (by omega)).setNdV 800 _ (by omega)).setDpV _ _ (by omega)
       ·rw[ah.o];exact Nat.min_le_right _ _
       rintro e w' ⟨rfl,aa,ab⟩;have a3:=Z aa;have a5:=Z ab;clear aa ab;go_wp2
       go_end0
       exact⟨rfl,a3.o,(((HK.o.setCell _ _ (fun _=>rfl)).setCell _ _ (fun _=>rfl)).setCell _ _ (fun _=>rfl)).trans a5.o⟩
      ·go_wp2_with fail
       refine(aB4 B (Dec.lshD k s) _ ?_ ?_).mono ?_
       ·rw[ah.o,show min (s.nd+δ) 800=s.nd+δ by omega];exact(HD.o.setNdV (s.nd+δ) _ (by omega)).setDpV _ _ (by omega)
       ·rw[ah.o];exact Nat.min_le_right _ _
       rintro e w' ⟨rfl,aa,ab⟩;have a3:=Z aa;have a5:=Z ab;clear aa ab;go_wp2
       go_end0
       exact⟨rfl,a3.o,((HK.o.setCell _ _ (fun _=>rfl)).setCell _ _ (fun _=>rfl)).trans a5.o⟩
     ·cases f with
      | zero=>exact absurd (by simpa using g1) bh
      | succ f =>
       have gs:Dec.steps (f+1) q=if q=0 then 0 else 1+Dec.steps f (q / 10):=rfl
       have gd:Dec.digs (f+1) q t=if q=0 then t else Dec.digs f (q / 10) (q%10 :: t):=rfl
       rw[ac bh]at gs gd
       obtain⟨q',i,Z',O'⟩:=aIb q g4;obtain⟨o1,o2,o3,o4,o5,z,F⟩:=O';rw[gs,<-z]at V
       rw[gd,<-z,<-F]at g5
       have bq:q'<10^f:=by rw[bz]at g1;omega
       have bx:q'<18446744073709551616:=by omega
       obtain⟨W',rfl⟩:∃W',W=W'+1:=⟨W-1,by omega⟩
       have bs:Dec.steps f q'=W':=by omega
       have v:W'<800:=by omega
       have cr:W'<=25:=by omega
       have c7:(0:Int)<q:=by omega
       have fB:=a.fz W';obtain⟨ck,cw⟩:∃x:Value,wr.cell? ⟨B,W',none⟩=some x:=⟨_,a.byte W' (by rw[Dec.ow_len _ _ _ j.o.len];exact v)⟩
       have C:((Dec.ch i).toNat:Int)=(i:Int)+48:=by rw[Dec.ch_nat i (by omega)];omega
       have a2:=Z C;have G1:=Z bq;have G2:=Z bs;have G4:=Z bx;have G5:=Z g5;clear y a gs gd g1 V g3 g4 g5 bq bs bx z F C;go_wp2
       go_roundw
       case measure=>(simp[intOf];try omega)
       case rel =>
        refine⟨f,W',q',i :: t,?_,rfl,G1.o,G2.o,cr,G4.o,G5.o,HK.o.setCell _ _ (fun _=>rfl),?_⟩
        ·exact az (Value.int .i64) (by omega)
        ·rw[co,<-Dec.ow_set _ _ _ _ j.o.len v,Dec.over_in _ _ _ v];exact HD.o.setByte W' v (Dec.ch i) _ a2.o.symm
   | succ m =>
    obtain rfl:=(show _=Value.int .i64 (m:Int)from hr.trans (az (Value.int .i64) (by omega)))
    obtain⟨W,hW⟩:∃W,m+δ = W:=⟨_,rfl⟩
    obtain rfl:=(show _=Value.int .i64 ((W:Int)+1)from R.trans (az (Value.int .i64) (by omega)))
    obtain⟨X,M⟩:∃X,Dec.carry k ((Dec.dgs s.D s.nd).drop (m+1))=X:=⟨_,rfl⟩
    rw[M]at E
    subst E;rw[show m+1+δ = W+1 by omega]at a
    have ad:m<s.D.length:=by have:=j.o.len;omega
    have av:m<(Dec.ow s.D (W+1) ((Dec.lows k ((Dec.dgs s.D s.nd).drop (m+1))).map Dec.ch)).length:=by rw[Dec.ow_len _ _ _ j.o.len];omega
    have ci:=a.byte m av;obtain⟨c,N⟩:∃c,s.D[m]=c:=⟨_,rfl⟩
    have hg:(Dec.ow s.D (W+1) ((Dec.lows k ((Dec.dgs s.D s.nd).drop (m+1))).map Dec.ch))[m]?=some c:=by
     rw[Dec.ow_get _ _ _ j.o.len,ae (by omega),bc ad,N]
    rw[show(Dec.ow s.D (W+1) ((Dec.lows k ((Dec.dgs s.D s.nd).drop (m+1))).map Dec.ch))[m]=c from(fc.1 hg).2]at ci
    have bd:=HF.o.dig c (by rw[<-N];exact ja.2 ⟨m,by omega,rfl⟩);obtain⟨d,hd⟩:∃d,Dec.un c=d:=⟨_,rfl⟩
    have an:(c.toNat:Int)=(d:Int)+48:=by unfold Dec.un at hd;omega
    rw[an]at ci
    have p:(Dec.dgs s.D s.nd).drop m=d :: (Dec.dgs s.D s.nd).drop (m+1):=by
     have:(Dec.dgs s.D s.nd)[m]?=some d:=by
      unfold Dec.dgs;rw[gv,gg,ae (by omega),bc ad,N];exact az some hd
     obtain⟨h1,h2⟩:=fc.1 this;rw[dy h1,h2]
    have d9:d<=9:=by unfold Dec.un at hd;omega
    obtain⟨P,A⟩:∃P,d*2^k=P:=⟨_,rfl⟩
    have a9:X+P<18446744073709551616:=by
     have:=Dec.carry_add_lt k d ((Dec.dgs s.D s.nd).drop (m+1)) (cb.o (m+1)) (by omega);have:=aFs k k2;omega
    obtain⟨Y',hY⟩:∃Y',X+P=Y':=⟨_,rfl⟩
    have e1:IntKind.u64.wrap ((d:Int)*2^k)=(P:Int):=by
     rw[kK,<-A];have:((d:Int)*2^k)=((d*2^k:Nat):Int):=by simp
     rw[this,A];omega
    have e2:IntKind.u64.wrap ((X:Int)+P)=(Y':Int):=by rw[kK];omega
    obtain⟨q,i,Z',O'⟩:=aIb Y' (by omega);obtain⟨o1,o2,o3,o4,o5,z,F⟩:=O';have ar:Dec.lows k ((Dec.dgs s.D s.nd).drop m)=i :: Dec.lows k ((Dec.dgs s.D s.nd).drop (m+1)):=by
     rw[p];show(Dec.carry k _+d*2^k)%10 :: _=_;rw[M,A,hY,F]
    have al:Dec.carry k ((Dec.dgs s.D s.nd).drop m)=q:=by
     rw[p];show(Dec.carry k _+d*2^k) / 10=_;rw[M,A,hY,z]
    have C:((Dec.ch i).toNat:Int)=(i:Int)+48:=by rw[Dec.ch_nat i (by omega)];omega
    have a6:=Z y;have a4:=Z a;have J:=Z hW;have a7:=Z ar;have a1:=Z al;have a2:=Z C;have fB:=a.fz W;have c3:=a.fz 803;have c0:wr.cell? ⟨B,803,none⟩=some (.bool _):=a.trunc;have c4:W<=825:=by omega
    have c6:m<800:=by omega
    by_cases v:W<800
    ·obtain⟨ck,cw⟩:∃x:Value,wr.cell? ⟨B,W,none⟩=some x:=⟨_,a.byte W (by rw[Dec.ow_len _ _ _ j.o.len];exact v)⟩
     clear y a hW M p hg av N hd an bd ad hr R A hY z F a9 ar al C;go_wp2
     go_roundw
     case measure=>(simp[intOf];try omega)
     case rel =>
      refine⟨m,by omega,by go_num,?_,?_,a6.o.setCell _ _ (fun _=>rfl),?_⟩
      ·exact az (Value.int .i64) (by have:=J.o;omega)
      ·rw[a1.o]
      ·rw[J.o,a7.o,co,<-Dec.ow_set _ _ _ _ j.o.len v,Dec.over_in _ _ _ v];exact a4.o.setByte W v (Dec.ch i) _ a2.o.symm
    ·have ao:800<=W:=by omega
     by_cases h0:i=0
     ·subst h0;clear y a M p hg av N hd an bd ad hr R A hY z F a9 ar al C v hW;go_wp2
      go_roundw
      case measure=>(simp[intOf];try omega)
      case rel =>
       refine⟨m,by omega,by go_num,?_,?_,a6.o,?_⟩
       ·exact az (Value.int .i64) (by have:=J.o;omega)
       ·rw[a1.o]
       ·rw[J.o,a7.o,co,<-Dec.ow_out _ _ _ _ j.o.len ao,Dec.over_out _ _ _ ao];have e0:(Dec.ch 0 !=48)=false:=by decide
        rw[e0,jw];exact a4.o
     ·have c8:((i:Int) !=0)=true:=db.2 (by omega);clear y a M p hg av N hd an bd ad hr R A hY z F a9 ar al C v hW;go_wp2
      go_roundw
      case measure=>(simp[intOf];try omega)
      case rel =>
       refine⟨m,by omega,by go_num,?_,?_,a6.o.setCell _ _ (fun _=>rfl),?_⟩
       ·exact az (Value.int .i64) (by have:=J.o;omega)
       ·rw[a1.o]
       ·rw[J.o,a7.o,co,<-Dec.ow_out _ _ _ _ j.o.len ao,Dec.over_out _ _ _ ao];have e0:(Dec.ch i !=48)=true:=by
         rw[db];intro e;have:=az UInt8.toNat e;rw[Dec.ch_nat i (by omega)]at this
         have c1:(48:UInt8).toNat=48:=rfl;omega
        rw[e0,Bool.true_or,rt];exact a4.o.setTr true
