/-
The slow decimals: leftShift.
-/
import Derived.Test.YtcfgbdhpcboikaaGreatDoorBase
import Derived.Deep.CutBlock
import Derived.Deep.DeepCutAuto
namespace Go.Proofs.YtcfgbdhpcboikaaGreatDoor
set_option maxHeartbeats 8000000
set_option maxRecDepth 100000
open Go.RowKit
structure oC (w:H) (B:Nat):Prop where
 cheats:∃b o,b≠B/\w.cell? ⟨14,0,none⟩=some (.slice (some ⟨b,o,none⟩) 61 61)/\∀i,i<61->w.cell? ⟨b,o+i*2,none⟩=some (.int .i64 (Pinned.cheatRows.getD i (0,[])).1)/\w.cell? ⟨b,o+i*2+1,none⟩=some (.string ⟨(Pinned.cheatRows.getD i (0,[])).2.toArray⟩)
 p2:∃b o,b≠B/\w.cell? ⟨11,0,none⟩=some (.slice (some ⟨b,o,none⟩) 9 9)/\∀i,i<9->w.cell? ⟨b,o+i,none⟩=some (.int .i64 (([1,3,6,9,13,16,19,23,26]:List Int).getD i 0))
 info0:w.cell? ⟨8,0,none⟩=some (.int .u64 52)
 info1:w.cell? ⟨8,1,none⟩=some (.int .u64 11)
 info2:w.cell? ⟨8,2,none⟩=some (.int .i64 (-1023))
 far:14<B
theorem oC.kept {w w':H}{B:Nat}(h:oC w B)(k:aD (· = B) w w'):oC w' B:=by
 obtain⟨b,o,a,g,d⟩:=h.cheats;obtain⟨f,r,e,j,l⟩:=h.p2;have n:=h.far;have c:∀ {p:Addr} {v:Value},w.cell? p=some v->p.block≠B->w'.cell? p=some v:=fun m q=>k.cell m q
 exact⟨⟨b,o,a,c g (show 14≠B by omega),fun i hi=>⟨c (d i hi).1 a,c (d i hi).2 a⟩⟩,⟨f,r,e,c j (show 11≠B by omega),fun i hi=>c (l i hi) e⟩,
  c h.info0 (show 8≠B by omega),c h.info1 (show 8≠B by omega),c h.info2 (show 8≠B by omega),n⟩
theorem aJQ:Tryz.prog.arrayLen 232=800:=by kernel_rfl
theorem aKJ (B n:Nat)(b:n<=800)(w:H):(Instr.sliceAt 232 (.pointer (some ⟨B,0,none⟩)) (some (.int .i64 0)) (some (.int .i64 n)) none).run Tryz.prog w=.ok (.slice (some ⟨B,0,none⟩) n 800) w:=by
 rw[run_sliceAt_array_lh w 232 ⟨B,0,none⟩ (by kernel_rfl) .i64 .i64 0 n (ig _) (by omega) (by rw[aJQ];omega),aJQ];have a:(sizeOf (Tryz.prog.elem 232)).run Tryz.prog w=.ok 1 w:=by{rw[show Tryz.prog.elem 232=5 by kernel_rfl];exact Tryz.sizeOf5 w};rw[a];simp[Result.andThen,slicedAt,Addr.add]
def kU (B:Nat)(s:Dec.Dc)(w:H)(e:Ending)(w':H):Prop:=e=.returned (.tuple #[])/\aC w' B s/\aD (· = B) w w'
theorem jD (z:Int):IntKind.u64.wrap z=z%18446744073709551616:=by
 have a:IntKind.u64.signed=false:=rfl;have b:IntKind.u64.bits=64:=rfl;unfold IntKind.wrap;simp only[a,b,lf,fw,fy];rfl
theorem aEw (k:Nat)(a:k<61):2^k<=1152921504606846976:=bg (b8 (by decide) (show k<=60 by omega)) (by decide)
structure aPy (Y' q rm Z':Nat):Prop where
 e3:(Y':Int).tdiv 10=q
 e3':IntKind.u64.wrap (q:Int)=q
 e4:IntKind.u64.wrap (10*(q:Int))=Z'
 e5:IntKind.u64.wrap ((Y':Int)-Z')=rm
 r9:rm<=9
 hq:q=Y' / 10
 hr:rm=Y'%10
theorem aHe (a:Nat)(h:a<18446744073709551616):∃q b Z',aPy a q b Z':=by
 refine⟨a / 10,a%10,10*(a / 10),?_,?_,?_,?_,by omega,rfl,rfl⟩;{rw[Int.tdiv_eq_ediv_of_nonneg (by omega)];omega};{rw[jD];omega};{rw[jD];omega};{rw[jD];omega}
theorem aM1 (f n:Nat):Dec.steps f n<=f:=by
 induction f generalizing n with|zero=>simp[Dec.steps]|succ f ih=>{unfold Dec.steps;split<;>first|omega|(have:=ih (n / 10);omega)}
theorem aOr (B k:Nat)(s:Dec.Dc)(w:H)(T:oC w B)(h:aC w B s)(K:Dec.Fine s)(E:1<=s.nd)(k1:1<=k)(k2:k<61)(p1:-100000000<=s.dp)(p2:s.dp<=100000000) :
  Y 288 #[.pointer (some ⟨B,0,none⟩),.int .u64 k] w (kU B (Dec.lsh k s) w):=by
 obtain⟨b,o,hb,t1,t2⟩:=T.cheats;obtain⟨t3,t4⟩:=t2 k k2;obtain⟨r1,r2,r3⟩:=aJa k k2 (by omega);obtain⟨str,a0⟩:∃str:I,str=⟨(Pinned.cheatRows.getD k (0,[])).2.toArray⟩:=⟨_,rfl⟩;rw[<-a0]at t4;obtain⟨δ,hδ⟩:∃ δ,Dec.steps 25 (Dec.carry k (Dec.dgs s.D s.nd))=δ := ⟨_,rfl⟩;obtain⟨L,hL⟩:∃L,Dec.less (Dec.dgs s.D s.nd) (Dec.cut k)=L:=⟨_,rfl⟩;obtain⟨dd,dr,S,f2,_,f4,f5⟩:=Dec.fine_cons K E;have p:∀d∈Dec.dgs s.D s.nd,d<10:=by{rw[S];exact f4};have hlen:(Dec.dgs s.D s.nd).length=s.nd:=by{rw[S,bv];exact f5};have PL:∀u,aC u B s->Y 296 #[.slice (some ⟨B,0,none⟩) s.nd 800,.string str] u fun e w'=>e=.returned (.bool L)/\∃m,w'=u.drewN m:=by{intro u hu;have:=aKf B s.nd 800 s str u hu K.le (by rw[a0];show(Pinned.cheatRows.getD k (0,[])).2.length<=1000;omega);rw[aMk s K,show mL str.data.toList=(Dec.cut k).map (· + 48) by rw[a0];exact r2,aHX,hL]at this;exact this};have a8:=Dec.carry_25 k (Dec.dgs s.D s.nd) k2 p;have b0:(Pinned.cheatRows.getD k (0,[])).1=(if L then δ + 1 else δ):=by{have ft:=Dec.front_table (Dec.dgs s.D s.nd) k 25 k2 (by omega) p (by rw[S];simpa using f2) (by rw[S];simp) a8;obtain⟨_,_,_,_,_,g1,V⟩:=Dec.cuts k k2 (by omega);rw[hδ,hL]at ft;rw[r1];have hm:1<=Dec.more k:=by{unfold Dec.more;omega};cases L;{simpa using ft.symm};{simp at ft ⊢;omega}};have co:=K.le;have cm:δ <= 25:=by{rw[<-hδ];exact aM1 25 _};have cz:=h.nd;have c2:=h.fz 800;have SL:=aKJ B s.nd co;have j:=Z h;have HF:=Z K;have cd:=Z PL;have bh:=Z hδ;have b5:=Z p;have bj:=Z hlen;have b3:=Z a8;rw[b0]at t3;have b2:∀m,∀d∈(Dec.dgs s.D s.nd).drop m,d<10:=fun m d hd=>p d (jd hd)
 have cb:=Z b2;clear h K PL r1 r2 r3 a0 T t2 hδ hL b0 p hlen a8 S f2 f4 f5 b2;cases L;all_goals
  simp only[fw,fy,ed]at t3;go_enter Tryz.func288,Tryz.ntmps288
  go_wp2_with fail
  go_quiet ((go_at_call 296;exact Calls.quiet_of (cd.o _ (j.o.drewN _))))
  go_wp2_with fail
  go_loopw [5,6,7] (fun r wv n wr=>∃m:Nat,m<=s.nd/\r=.int .i64 ((m:Int)-1)/\wv=.int .i64 ((m:Int)+δ)/\n=.int .u64 (Dec.carry k ((Dec.dgs s.D s.nd).drop m):Nat)/\aD (· = B) w wr /\
   aC wr B { s with D:=Dec.ow s.D (m+δ) ((Dec.lows k ((Dec.dgs s.D s.nd).drop m)).map Dec.ch),trunc:=s.trunc||Dec.over (m+δ) ((Dec.lows k ((Dec.dgs s.D s.nd).drop m)).map Dec.ch) }) (fun r _ _ _=>(intOf r+1).toNat)
  case atStart =>
   have e:(Dec.dgs s.D s.nd).drop s.nd=[]:=dy (by rw[bj.o];omega);refine⟨s.nd,ah _,rfl,?_,by rw[e];rfl,(aD.refl _ w).drewN _,?_⟩
   ·first|rfl|exact az (Value.int .i64) (by unfold wrap64;omega)|exact az (Value.int .i64) (by omega)
   ·rw[e];have:=j.o.drewN nq;simpa [Dec.lows,Dec.ow_nil,Dec.over_nil]using this
  case round =>
   obtain⟨m,hm,hr,R,E,y,a⟩:=hrel;cases m with
   | zero =>
    obtain rfl:=(show _=Value.int .i64 (-1)from hr.trans (az (Value.int .i64) (by omega)))
    obtain rfl:=(show _=Value.int .i64 (δ : Int)from R.trans (az (Value.int .i64) (by omega)))
    rw[fq]at E a
    rw[bw]at a
    obtain⟨Q,hQ⟩:∃Q,Dec.carry k (Dec.dgs s.D s.nd)=Q:=⟨_,rfl⟩
    rw[hQ]at E
    subst E;have HQ:=Z hQ;have ca:=Z y;have b4:=Z a;have bx:Q<18446744073709551616:=by
     have:=Dec.carry_lt k (Dec.dgs s.D s.nd) b5.o;have:=aEw k k2;omega
    have cj:=Z bx;clear y a hQ hr R bx;obtain⟨wo,rfl⟩:∃wo:H,wo=wr:=⟨_,rfl⟩
    go_wp2_with fail
    go_loopw [6,7] (fun wv n wr=>∃(f W q:Nat) (t:List Nat),wv=.int .i64 (W:Int)/\n=.int .u64 (q:Int)/\q<10^f/\Dec.steps f q=W/\W<=25/\q<18446744073709551616/\Dec.digs f q t=Dec.fullN k (Dec.dgs s.D s.nd)/\aD (· = B) w wr /\
     aC wr B { s with D:=Dec.ow s.D W (t.map Dec.ch),trunc:=s.trunc||Dec.over W (t.map Dec.ch) }) (fun wv _ _=>(intOf wv).toNat)
    case atStart =>
     refine⟨25,δ,Q,Dec.lows k (Dec.dgs s.D s.nd),rfl,rfl,?_,?_,cm,cj.o,?_,ca.o,b4.o⟩
     ·rw[<-HQ.o];exact b3.o
     ·rw[<-HQ.o];exact bh.o
     ·rw[<-HQ.o];rfl
    case round =>
     obtain⟨f,W,q,t,rfl,rfl,g1,V,g3,g4,g5,y,a⟩:=hrel;have HK:=Z y;have HD:=Z a;by_cases bf:q=0
     ·subst bf;have hz:∀g,Dec.steps g 0=0:=by intro g;cases g<;>simp[Dec.steps]
      have b1:∀g (l:List Nat),Dec.digs g 0 l=l:=by intro g l;cases g<;>simp[Dec.digs]
      rw[hz]at V
      subst V;rw[b1]at g5
      subst g5;have be:((Dec.fullN k (Dec.dgs s.D s.nd)).map Dec.ch).length=s.nd+δ := by
       rw[dc,Dec.fullN_len,bh.o,bj.o];omega
      have cs:=Z be;have c9:wr.cell? ⟨B,800,none⟩=some (.int .i64 s.nd):=a.nd;have dg:wr.cell? ⟨B,801,none⟩=some (.int .i64 s.dp):=a.dp;have dk:=a.fz 800;have dl:=a.fz 801;have bk:Dec.lshD k s={ ({ ({ s with D:=Dec.ow s.D 0 ((Dec.fullN k (Dec.dgs s.D s.nd)).map Dec.ch),trunc:=s.trunc||Dec.over 0 ((Dec.fullN k (Dec.dgs s.D s.nd)).map Dec.ch) }:Dec.Dc)with nd:=min (s.nd+δ) 800 }:Dec.Dc)with dp:=s.dp+δ }:=by
       unfold Dec.lshD Dec.fullL;rw[be];simp only[Dec.Dc.mk.injEq,fk,fm];omega
      have ad:=Z bk;clear y a hz b1 g1 g3 g4 be bk;by_cases c5:800<=s.nd+δ
      ·go_wp2_with fail
       refine(aBj B (Dec.lshD k s) _ ?_ ?_).mono ?_
       ·rw[ad.o,show min (s.nd+δ) 800=800 by omega];exact((HD.o.setNdV (s.nd+δ) _ (by omega)).setNdV 800 _ (by omega)).setDpV _ _ (by omega)
       ·rw[ad.o];exact Nat.min_le_right _ _
       rintro e w' ⟨rfl,aa,ab⟩;have a3:=Z aa;have a5:=Z ab;clear aa ab;go_wp2
       go_end0
       exact⟨rfl,a3.o,(((HK.o.setCell _ _ (fun _=>rfl)).setCell _ _ (fun _=>rfl)).setCell _ _ (fun _=>rfl)).trans a5.o⟩
      ·go_wp2_with fail
       refine(aBj B (Dec.lshD k s) _ ?_ ?_).mono ?_
       ·rw[ad.o,show min (s.nd+δ) 800=s.nd+δ by omega];exact(HD.o.setNdV (s.nd+δ) _ (by omega)).setDpV _ _ (by omega)
       ·rw[ad.o];exact Nat.min_le_right _ _
       rintro e w' ⟨rfl,aa,ab⟩;have a3:=Z aa;have a5:=Z ab;clear aa ab;go_wp2
       go_end0
       exact⟨rfl,a3.o,((HK.o.setCell _ _ (fun _=>rfl)).setCell _ _ (fun _=>rfl)).trans a5.o⟩
     ·cases f with
      | zero=>exact absurd (by simpa using g1) bf
      | succ f =>
       have gs:Dec.steps (f+1) q=if q=0 then 0 else 1+Dec.steps f (q / 10):=rfl
       have gd:Dec.digs (f+1) q t=if q=0 then t else Dec.digs f (q / 10) (q%10 :: t):=rfl
       rw[ae bf]at gs gd
       obtain⟨q',i,Z',O'⟩:=aHe q g4;obtain⟨o1,o2,o3,o4,o5,z,F⟩:=O';rw[gs,<-z]at V
       rw[gd,<-z,<-F]at g5
       have bl:q'<10^f:=by rw[bz]at g1;omega
       have bs:q'<18446744073709551616:=by omega
       obtain⟨W',rfl⟩:∃W',W=W'+1:=⟨W-1,by omega⟩
       have bq:Dec.steps f q'=W':=by omega
       have v:W'<800:=by omega
       have cp:W'<=25:=by omega
       have c7:(0:Int)<q:=by omega
       have fB:=a.fz W';obtain⟨ck,cw⟩:∃x:Value,wr.cell? ⟨B,W',none⟩=some x:=⟨_,a.byte W' (by rw[Dec.ow_len _ _ _ j.o.len];exact v)⟩
       have C:((Dec.ch i).toNat:Int)=(i:Int)+48:=by rw[Dec.ch_nat i (by omega)];omega
       have a2:=Z C;have G1:=Z bl;have G2:=Z bq;have G4:=Z bs;have G5:=Z g5;clear y a gs gd g1 V g3 g4 g5 bl bq bs z F C;go_wp2
       go_roundw
       case measure=>(simp[intOf];try omega)
       case rel =>
        refine⟨f,W',q',i :: t,?_,rfl,G1.o,G2.o,cp,G4.o,G5.o,HK.o.setCell _ _ (fun _=>rfl),?_⟩
        ·exact az (Value.int .i64) (by omega)
        ·rw[cg,<-Dec.ow_set _ _ _ _ j.o.len v,Dec.over_in _ _ _ v];exact HD.o.setByte W' v (Dec.ch i) _ a2.o.symm
   | succ m =>
    obtain rfl:=(show _=Value.int .i64 (m:Int)from hr.trans (az (Value.int .i64) (by omega)))
    obtain⟨W,hW⟩:∃W,m+δ = W:=⟨_,rfl⟩
    obtain rfl:=(show _=Value.int .i64 ((W:Int)+1)from R.trans (az (Value.int .i64) (by omega)))
    obtain⟨X,M⟩:∃X,Dec.carry k ((Dec.dgs s.D s.nd).drop (m+1))=X:=⟨_,rfl⟩
    rw[M]at E
    subst E;rw[show m+1+δ = W+1 by omega]at a
    have ac:m<s.D.length:=by have:=j.o.len;omega
    have aw:m<(Dec.ow s.D (W+1) ((Dec.lows k ((Dec.dgs s.D s.nd).drop (m+1))).map Dec.ch)).length:=by rw[Dec.ow_len _ _ _ j.o.len];omega
    have ci:=a.byte m aw;obtain⟨c,N⟩:∃c,s.D[m]=c:=⟨_,rfl⟩
    have hg:(Dec.ow s.D (W+1) ((Dec.lows k ((Dec.dgs s.D s.nd).drop (m+1))).map Dec.ch))[m]?=some c:=by
     rw[Dec.ow_get _ _ _ j.o.len,af (by omega),bc ac,N]
    rw[show(Dec.ow s.D (W+1) ((Dec.lows k ((Dec.dgs s.D s.nd).drop (m+1))).map Dec.ch))[m]=c from(fc.1 hg).2]at ci
    have bd:=HF.o.dig c (by rw[<-N];exact iz.2 ⟨m,by omega,rfl⟩);obtain⟨d,hd⟩:∃d,Dec.un c=d:=⟨_,rfl⟩
    have an:(c.toNat:Int)=(d:Int)+48:=by unfold Dec.un at hd;omega
    rw[an]at ci
    have p:(Dec.dgs s.D s.nd).drop m=d :: (Dec.dgs s.D s.nd).drop (m+1):=by
     have:(Dec.dgs s.D s.nd)[m]?=some d:=by
      unfold Dec.dgs;rw[gk,f9,af (by omega),bc ac,N];exact az some hd
     obtain⟨h1,h2⟩:=fc.1 this;rw[dt h1,h2]
    have d9:d<=9:=by unfold Dec.un at hd;omega
    obtain⟨P,A⟩:∃P,d*2^k=P:=⟨_,rfl⟩
    have a9:X+P<18446744073709551616:=by
     have:=Dec.carry_add_lt k d ((Dec.dgs s.D s.nd).drop (m+1)) (cb.o (m+1)) (by omega);have:=aEw k k2;omega
    obtain⟨Y',hY⟩:∃Y',X+P=Y':=⟨_,rfl⟩
    have e1:IntKind.u64.wrap ((d:Int)*2^k)=(P:Int):=by
     rw[jD,<-A];have:((d:Int)*2^k)=((d*2^k:Nat):Int):=by simp
     rw[this,A];omega
    have e2:IntKind.u64.wrap ((X:Int)+P)=(Y':Int):=by rw[jD];omega
    obtain⟨q,i,Z',O'⟩:=aHe Y' (by omega);obtain⟨o1,o2,o3,o4,o5,z,F⟩:=O';have av:Dec.lows k ((Dec.dgs s.D s.nd).drop m)=i :: Dec.lows k ((Dec.dgs s.D s.nd).drop (m+1)):=by
     rw[p];show(Dec.carry k _+d*2^k)%10 :: _=_;rw[M,A,hY,F]
    have al:Dec.carry k ((Dec.dgs s.D s.nd).drop m)=q:=by
     rw[p];show(Dec.carry k _+d*2^k) / 10=_;rw[M,A,hY,z]
    have C:((Dec.ch i).toNat:Int)=(i:Int)+48:=by rw[Dec.ch_nat i (by omega)];omega
    have a6:=Z y;have a4:=Z a;have J:=Z hW;have a7:=Z av;have a1:=Z al;have a2:=Z C;have fB:=a.fz W;have c3:=a.fz 803;have c0:wr.cell? ⟨B,803,none⟩=some (.bool _):=a.trunc;have c4:W<=825:=by omega
    have c6:m<800:=by omega
    by_cases v:W<800
    ·obtain⟨ck,cw⟩:∃x:Value,wr.cell? ⟨B,W,none⟩=some x:=⟨_,a.byte W (by rw[Dec.ow_len _ _ _ j.o.len];exact v)⟩
     clear y a hW M p hg aw N hd an bd ac hr R A hY z F a9 av al C;go_wp2
     go_roundw
     case measure=>(simp[intOf];try omega)
     case rel =>
      refine⟨m,by omega,by go_num,?_,?_,a6.o.setCell _ _ (fun _=>rfl),?_⟩
      ·exact az (Value.int .i64) (by have:=J.o;omega)
      ·rw[a1.o]
      ·rw[J.o,a7.o,cg,<-Dec.ow_set _ _ _ _ j.o.len v,Dec.over_in _ _ _ v];exact a4.o.setByte W v (Dec.ch i) _ a2.o.symm
    ·have ao:800<=W:=by omega
     by_cases h0:i=0
     ·subst h0;clear y a M p hg aw N hd an bd ac hr R A hY z F a9 av al C v hW;go_wp2
      go_roundw
      case measure=>(simp[intOf];try omega)
      case rel =>
       refine⟨m,by omega,by go_num,?_,?_,a6.o,?_⟩
       ·exact az (Value.int .i64) (by have:=J.o;omega)
       ·rw[a1.o]
       ·rw[J.o,a7.o,cg,<-Dec.ow_out _ _ _ _ j.o.len ao,Dec.over_out _ _ _ ao];have e0:(Dec.ch 0 !=48)=false:=by decide
        rw[e0,jl];exact a4.o
     ·have c8:((i:Int) !=0)=true:=ct.2 (by omega);clear y a M p hg aw N hd an bd ac hr R A hY z F a9 av al C v hW;go_wp2
      go_roundw
      case measure=>(simp[intOf];try omega)
      case rel =>
       refine⟨m,by omega,by go_num,?_,?_,a6.o.setCell _ _ (fun _=>rfl),?_⟩
       ·exact az (Value.int .i64) (by have:=J.o;omega)
       ·rw[a1.o]
       ·rw[J.o,a7.o,cg,<-Dec.ow_out _ _ _ _ j.o.len ao,Dec.over_out _ _ _ ao];have e0:(Dec.ch i !=48)=true:=by
         rw[ct];intro e;have:=az UInt8.toNat e;rw[Dec.ch_nat i (by omega)]at this
         have c1:(48:UInt8).toNat=48:=rfl;omega
        rw[e0,Bool.true_or,rj];exact a4.o.setTr true
open Go.RowKit
theorem aKa (k:Nat)(l:List Nat)(n r:Nat)(h:n / 2^k≠0):Dec.pick k l n r=(n,r):=by
 cases l with|nil=>{show Dec.pickz k 20 n r=_;show(if n / 2^k=0 then _ else _)=_;rw[ae h]}|cons d l=>{show(if n / 2^k=0 then _ else _)=_;rw[ae h]}
theorem rP (n k:Nat):((n:Int) / 2^k)=((n / 2^k:Nat):Int):=by
 rw[m8];simp
theorem aFG (N C d:Nat)(b:N<=1152921504606846976)(a:C=d+48)(hd:d<=9) :
  ∃M S,IntKind.u64.wrap ((N:Int)*10)=(M:Int)/\IntKind.u64.wrap ((M:Int)+C)=(S:Int)/\IntKind.u64.wrap ((S:Int)-48)=((N*10+d:Nat):Int):=by
 refine⟨N*10,N*10+d+48,?_,?_,?_⟩;{rw[jD];omega};{rw[jD];omega};{rw[jD];omega}
theorem aEF (N k:Nat)(a:N<18446744073709551616)(b:k<61):bits .and .u64 (N:Int) ((2^k-1:Nat):Int)=((N%2^k:Nat):Int):=by
 have:=aEw k b;rw[nc N (2^k-1) a (by omega),jk]
theorem aHj (B k:Nat)(s:Dec.Dc)(w:H)(h:aC w B s)(hF:Dec.Fine s)(hn:1<=s.nd)(k1:1<=k)(k2:k<61)(p1:-100000000<=s.dp)(p2:s.dp<=100000000) :
  Y 289 #[.pointer (some ⟨B,0,none⟩),.int .u64 k] w (kU B (Dec.rsh k s) w):=by
 have fb:=hF.le;obtain⟨dd,dr,f1,f2,_,f4,f5⟩:=Dec.fine_cons hF hn;have a7:∀d∈Dec.dgs s.D s.nd,d<10:=by{rw[f1];exact f4};have hlen:(Dec.dgs s.D s.nd).length=s.nd:=by{rw[f1,bv];exact f5};have u:=Dec.pick_ok k (Dec.dgs s.D s.nd) 0 0 k2 a7 (.inr ⟨dd,dr,f1,f2⟩) (by have:=ar k;omega);obtain⟨_,_,g1,g2,g3,g4,g5,_⟩:=Dec.fullR_head k dd dr k1 k2 f2 f4;rw[<-f1]at g4 g5;obtain⟨NF,bl⟩:∃NF,(Dec.pick k (Dec.dgs s.D s.nd) 0 0).1=NF:=⟨_,rfl⟩;obtain⟨JF,a6⟩:∃JF,(Dec.pick k (Dec.dgs s.D s.nd) 0 0).2=JF:=⟨_,rfl⟩;have a2:Dec.pick k (Dec.dgs s.D s.nd) 0 0=(NF,JF):=by{rw[<-bl,<-a6]};rw[bl,a6]at u;rw[a6]at g4 g5;have kp:=aEw k k2;have cm:∀j,j<s.nd->∃c:UInt8,s.D[j]?=some c/\(Dec.dgs s.D s.nd).drop j=Dec.un c :: (Dec.dgs s.D s.nd).drop (j+1)/\c.toNat=Dec.un c+48/\Dec.un c<=9:=by{intro j hj;have av:j<s.D.length:=by{have:=h.len;omega};refine⟨s.D[j],bc av,?_,?_⟩;{have:(Dec.dgs s.D s.nd)[j]?=some (Dec.un s.D[j]):=by{unfold Dec.dgs;rw[gk,f9,af hj,bc av];rfl};obtain⟨y,h2⟩:=fc.1 this;rw[dt y,h2]};{have:=hF.dig s.D[j] (iz.2 ⟨j,by omega,rfl⟩);unfold Dec.un;omega}};have A:=Z h;have HF:=Z hF;have er:=Z a7;have ca:=Z hlen;have HP:=Z u;have cd:=Z a2;have b2:=Z cm;have J:=Z kp;have ep:∀m,∀d∈(Dec.dgs s.D s.nd).drop m,d<10:=fun m d hd=>a7 d (jd hd);have jb:JF<=821:=by{omega};have j1:1<=JF:=by{omega};have dk:∀e q,Dec.dgs s.D s.nd=e :: q->e≠0:=by{intro e q X;rw[f1]at X;injection X with y h2;rw[<-y];exact f2};have ea:=Z dk;have ev:=h.dp;have ej:=h.fz 801;have bj:=h.nd;clear ep dk h hF a7 hlen u a2 cm kp bl a6 f1 f2 f4 f5 g1 g2 g3 g5;go_enter Tryz.func289,Tryz.ntmps289;go_upto_block 0 with fail;go_cut [4,6] (fun a b wx=>a=.int .i64 JF/\b=.int .u64 NF/\wx=w)
 case first =>
  as_aux_lemma =>
   go_wp2_with fail
   go_loopw [4,6] (fun r n wr=>∃j N:Nat,j<=s.nd/\r=.int .i64 (j:Int)/\n=.int .u64 (N:Int)/\Dec.pick k ((Dec.dgs s.D s.nd).drop j) N j=(NF,JF)/\N<10*2^k/\(1<=N\/j=0)/\wr=w) (fun r _ _=>s.nd-(intOf r).toNat)
   case atStart=>exact⟨0,0,bb _,rfl,rfl,cd.o,by have:=ar k;omega,.inr rfl,rfl⟩
   case round =>
    obtain⟨j,N,hj,rfl,rfl,u,t,y,rfl⟩:=hrel;by_cases hq:N / 2^k=0
    ·have et:((N:Int) / 2^k==0)=true:=by rw[rP,hq];rfl
     have v:N<2^k:=by
      rcases ak N (2^k)with g|g
      ·exact g
      ·have:=pe g (ar k);omega
     have bk:N<=1152921504606846976:=by have:=J.o;omega
     by_cases aw:j<s.nd
     ·obtain⟨c,b1,L,b3,b4⟩:=b2.o j aw;obtain⟨C,hC⟩:∃C,c.toNat=C:=⟨_,rfl⟩
      obtain⟨av,ck⟩:=fc.1 b1;have ee:wr.cell? ⟨B,j,none⟩=some (.int .u8 (C:Int)):=by rw[A.o.byte j av,ck,hC]
      have ec:C<=57:=by omega
      obtain⟨M,S,e1,e2,e3⟩:=aFG N C (Dec.un c) bk (by omega) b4;obtain⟨R,p⟩:∃R,N*10+Dec.un c=R:=⟨_,rfl⟩
      rw[p]at e3
      have a1:Dec.pick k ((Dec.dgs s.D s.nd).drop (j+1)) R (j+1)=(NF,JF):=by
       rw[<-u,L,<-p];show _=(if N / 2^k=0 then _ else _)
       rw[af hq]
      have an:R<10*2^k:=by rw[<-p];exact Dec.first_add k N _ hq (by omega)
      have c2:1<=R\/j+1=0:=by
       left;rcases y with y|y
       ·omega
       ·subst y;rw[fq]at L
        have:=ea.o _ _ L;omega
      have bf:=Z a1;have aa:=Z an;have d9:=Z c2;clear u t y hq v bk b1 L b3 b4 hC ck av p a1 an c2;go_wp2
      go_roundw
      case measure=>(simp[intOf];try omega)
      case rel=>exact⟨j+1,R,by omega,by go_num,rfl,bf.o,aa.o,d9.o,by trivial⟩
     ·have el:j=s.nd:=by omega
      subst el;have c0:1<=N:=by omega
      have ez:((N:Int)==0)=false:=ai.2 (by omega);have ao:(Dec.dgs s.D s.nd).drop s.nd=[]:=dy (by rw[ca.o];omega);rw[ao]at u
      have dg:Dec.pickz k 20 N s.nd=(NF,JF):=u;have c1:2^k<=N*10^20:=by
       have h3:(1152921504606846976:Nat)<=10^20:=by decide
       have h4:1*10^20<=N*10^20:=ap _ c0;have:=J.o;omega
      have d5:=Z dg;have HN:=Z t;have d3:=Z c1;clear u t y hq v bk c0 ao dg c1 aw;obtain⟨wo,rfl⟩:∃wo:H,wo=wr:=⟨_,rfl⟩
      go_wp2_with fail
      go_loop [4,6] (fun r n=>∃f j N:Nat,j+f=s.nd+20/\r=.int .i64 (j:Int)/\n=.int .u64 (N:Int)/\Dec.pickz k f N j=(NF,JF)/\2^k<=N*10^f/\N<10*2^k) (fun r _=>s.nd+20-(intOf r).toNat)
      case atStart=>exact⟨20,s.nd,N,rfl,rfl,rfl,d5.o,d3.o,HN.o⟩
      case round =>
       clear et ez;obtain⟨f,j,N,e9,rfl,rfl,u,F,t⟩:=hrel;by_cases hq:N / 2^k=0
       ·have et:((N:Int) / 2^k==0)=true:=by rw[rP,hq];rfl
        have v:N<2^k:=by
         rcases ak N (2^k)with g|g
         ·exact g
         ·have:=pe g (ar k);omega
        cases f with
        | zero=>rw[en]at F;omega
        | succ f =>
         obtain⟨R,p⟩:∃R,N*10=R:=⟨_,rfl⟩
         have e1:IntKind.u64.wrap ((N:Int)*10)=(R:Int):=by rw[jD];have:=J.o;omega
         have a1:Dec.pickz k f R (j+1)=(NF,JF):=by
          rw[<-u,<-p];show _=(if N / 2^k=0 then _ else _)
          rw[af hq]
         have a0:2^k<=R*10^f:=by rw[<-p,ag,<-Nat.pow_succ'];exact F
         have an:R<10*2^k:=by omega
         have bf:=Z a1;have be:=Z a0;have aa:=Z an;have fn:j<=820:=by omega
         clear u F t hq v p a1 a0 an;go_wp2
         go_round
         case measure=>(simp[intOf];try omega)
         case rel=>exact⟨f,j+1,R,by omega,by go_num,rfl,bf.o,be.o,aa.o⟩
       ·have et:((N:Int) / 2^k==0)=false:=by rw[rP];exact ai.2 (by omega)
        have X:(N,j)=(NF,JF):=by
         rw[<-u];cases f with
         | zero=>rfl
         | succ f =>
          show _=(if N / 2^k=0 then _ else _)
          rw[ae hq]
        obtain⟨rfl,rfl⟩:=go X;clear u F t hq X;go_wp2_with fail
        go_meet
        case rel=>exact⟨rfl,rfl,rfl⟩
    ·have et:((N:Int) / 2^k==0)=false:=by rw[rP];exact ai.2 (by omega)
     have X:(N,j)=(NF,JF):=by rw[<-u,aKa _ _ _ _ hq]
     obtain⟨rfl,rfl⟩:=go X;clear u t hq X y;go_wp2_with fail
     go_meet
     case rel=>exact⟨rfl,rfl,rfl⟩
 case rest =>
  as_aux_lemma =>
   obtain⟨rfl,rfl,rfl⟩:=hcut;obtain⟨dp',bs⟩:∃dp':Int,s.dp-(JF-1)=dp':=⟨_,rfl⟩
   have H2:=A.o.setDpV dp' (s.dp-(JF-1)) bs;have H2:=Z H2;obtain⟨E,hE⟩:∃E,2^k=E:=⟨_,rfl⟩
   obtain⟨MK,cz⟩:∃MK,2^k-1=MK:=⟨_,rfl⟩
   have cw:((2:Int)^k)=(E:Int):=by rw[<-hE];simp
   have e5:IntKind.u64.wrap (2^k)=(E:Int):=by rw[jD,cw];have:=J.o;omega
   have e6:IntKind.u64.wrap ((E:Int)-1)=(MK:Int):=by rw[jD];have:=J.o;have:=ar k;omega
   have cb:=Z cz;have d0:=Z bs;have a2:=cd.o;have c9:=HP.o;have d4:=Z c9;have ci:=Z a2;clear bs hE cw cz a2 c9;go_wp2_with fail
   go_loopw [4,5,6] (fun r wv n wr=>∃(j N:Nat) (l:List Nat),r=.int .i64 (j:Int)/\wv=.int .i64 (l.length:Nat)/\n=.int .u64 (N:Int)/\l.length+JF=j/\(j<=s.nd\/j=JF)/\N<10*2^k /\
    l++Dec.out2 k N ((Dec.dgs s.D s.nd).drop j)=Dec.out2 k NF ((Dec.dgs s.D s.nd).drop JF)/\Dec.left2 k N ((Dec.dgs s.D s.nd).drop j)=Dec.left2 k NF ((Dec.dgs s.D s.nd).drop JF)/\aD (· = B) wc wr /\
    aC wr B { s with D:=Dec.ow s.D 0 (l.map Dec.ch),dp:=dp' }) (fun r _ _ _=>s.nd-(intOf r).toNat)
   case atStart =>
    exact⟨JF,NF,[],rfl,rfl,rfl,by simp,.inr rfl,d4.o.2.1,rfl,rfl,(aD.refl _ wc).setCell _ _ (fun _=>rfl),by rw[fa,Dec.ow_nil];exact H2.o⟩
   case round =>
    obtain⟨j,N,l,rfl,rfl,rfl,hj,aw,t,hx,F,K,i⟩:=hrel;have HK:=Z K;have HD:=Z i;obtain⟨q,hq⟩:∃q,N / 2^k=q:=⟨_,rfl⟩
    have cp:(N:Int) / 2^k=(q:Int):=by rw[rP,hq]
    have q9:q<=9:=by
     have:N / 2^k<10:=(ko (ar k)).2 t;omega
    obtain⟨R,p⟩:∃R,N%2^k=R:=⟨_,rfl⟩
    have Q:N<18446744073709551616:=by have:=J.o;omega
    have co:bits .and .u64 (N:Int) (MK:Int)=(R:Int):=by rw[<-cb.o,aEF N k Q k2,p]
    have bq:R<=1152921504606846976:=by
     have:=gf N (ar k);have:=J.o;omega
    have V:((Dec.ch q).toNat:Int)=(q:Int)+48:=by rw[Dec.ch_nat q (by omega)];omega
    have ei:=i.fz 800;have bj:wr.cell? ⟨B,800,none⟩=some (.int .i64 s.nd):=i.nd;by_cases c8:j<s.nd
    ·obtain⟨c,b1,L,b3,b4⟩:=b2.o j c8;obtain⟨W,T⟩:∃W,l.length=W:=⟨_,rfl⟩
     have ac:W<800:=by omega
     obtain⟨C,hC⟩:∃C,c.toNat=C:=⟨_,rfl⟩
     have ee:wr.cell? ⟨B,j,none⟩=some (.int .u8 (C:Int)):=by
      have ek:j<(Dec.ow s.D 0 (l.map Dec.ch)).length:=by rw[Dec.ow_len _ _ _ A.o.len];omega
      have g:(Dec.ow s.D 0 (l.map Dec.ch))[j]?=some c:=by
       rw[Dec.ow_get _ _ _ A.o.len,ae (by omega),ae (by rw[dc];omega),b1]
      have:=i.byte j ek;rw[show(Dec.ow s.D 0 (l.map Dec.ch))[j]=c from(fc.1 g).2,hC]at this
      exact this
     have ec:C<=57:=by omega
     obtain⟨M,S,e1,e2,e3⟩:=aFG R C (Dec.un c) bq (by omega) b4;obtain⟨N',P⟩:∃N',R*10+Dec.un c=N':=⟨_,rfl⟩
     rw[P]at e3
     have z:Dec.rest k N+Dec.un c=N':=by unfold Dec.rest;rw[p,P]
     have dm:(l++[q])++Dec.out2 k N' ((Dec.dgs s.D s.nd).drop (j+1))=Dec.out2 k NF ((Dec.dgs s.D s.nd).drop JF):=by
      rw[<-hx,L,cv];show _=l++(N / 2^k :: Dec.out2 k (Dec.rest k N+Dec.un c) _)
      rw[hq,z];rfl
     have a0:Dec.left2 k N' ((Dec.dgs s.D s.nd).drop (j+1))=Dec.left2 k NF ((Dec.dgs s.D s.nd).drop JF):=by
      rw[<-F,L];show _=Dec.left2 k (Dec.rest k N+Dec.un c) _;rw[z]
     have v:N'<10*2^k:=by rw[<-z];exact(Dec.rest_add k N _ (by omega)).1
     have fB:=i.fz W;obtain⟨ef,eg⟩:∃x:Value,wr.cell? ⟨B,W,none⟩=some x:=⟨_,i.byte W (by rw[Dec.ow_len _ _ _ A.o.len];exact ac)⟩
     have eb:=Z dm;have be:=Z a0;have al:=Z v;have bd:=Z V;have HW:=Z T;have HJ:=Z hj;rw[T];clear K i hj aw t hx F hq p Q bq V b1 L b3 b4 hC P z dm a0 v T;go_wp2
     go_roundw
     case measure=>(simp[intOf];try omega)
     case rel =>
      refine⟨j+1,N',l++[q],by go_num,?_,rfl,?_,.inl (by omega),al.o,eb.o,be.o,HK.o.setCell _ _ (fun _=>rfl),?_⟩
      ·exact az (Value.int .i64) (by rw[ax,HW.o];rfl)
      ·rw[ax,HW.o];have:=HJ.o;have:=HW.o;simp only[jx];omega
      ·have b0:(l.map Dec.ch).length=W:=by rw[dc,HW.o]
       have:=HD.o.setByte W ac (Dec.ch q) _ bd.o.symm;rw[kt,pg,<-Dec.ow_snoc _ _ _ A.o.len (by omega),b0];exact this
    ·have ao:(Dec.dgs s.D s.nd).drop j=[]:=dy (by rw[ca.o];omega);rw[ao]at hx F
     have dl:l=Dec.out2 k NF ((Dec.dgs s.D s.nd).drop JF):=by rw[<-hx];exact(eh l).symm
     have c7:N=Dec.left2 k NF ((Dec.dgs s.D s.nd).drop JF):=F;have c5:Dec.fullR k (Dec.dgs s.D s.nd)=l++Dec.out3 k (k+2) N:=by
      unfold Dec.fullR;rw[ci.o,<-dl,<-c7]
     have em:l.length<=800:=by omega
     have d1:=Z c5;have HN:=Z t;obtain⟨W,T⟩:∃W,l.length=W:=⟨_,rfl⟩
     have HW:=Z T;rw[T];rw[T]at em
     clear K i hj aw t hx F hq p Q bq V ao dl c7 c5 cp co T q9;obtain⟨wo,rfl⟩:∃wo:H,wo=wr:=⟨_,rfl⟩
     go_wp2_with fail
     go_loopg [5,6] (k+1) (fun g wv n wr=>∃(f N:Nat) (zs:List Nat),g=f/\wv=.int .i64 (min zs.length 800:Nat)/\n=.int .u64 (N:Int)/\Dec.restN k f N=0/\zs++Dec.out3 k (f+1) N=Dec.fullR k (Dec.dgs s.D s.nd)/\N<10*2^k/\aD (· = B) wc wr /\
      aC wr B { s with D:=Dec.ow s.D 0 (zs.map Dec.ch),dp:=dp',trunc:=s.trunc||Dec.over 0 (zs.map Dec.ch) })
     case atStart =>
      refine⟨k+1,N,l,rfl,?_,rfl,Dec.rest_all k N,d1.o.symm,HN.o,HK.o,?_⟩
      ·exact az (Value.int .i64) (by rw[HW.o];omega)
      ·have:Dec.over 0 (l.map Dec.ch)=false:=by
        unfold Dec.over;rw[dy (by rw[dc,HW.o];omega)];rfl
       rw[this,rk];exact HD.o
     case round =>
      clear bj;obtain⟨f,N,zs,hg,rfl,rfl,hr,hz,t,K,i⟩:=hrel;have HG:=Z hg;have a5:=Z K;have a3:=Z i;obtain⟨W2,ab⟩:∃W2,min zs.length 800=W2:=⟨_,rfl⟩
      have es:=Z ab;rw[ab];by_cases ad:N=0
      ·subst ad;have dn:zs=Dec.fullR k (Dec.dgs s.D s.nd):=by
        rw[<-hz];show _=zs++(if 0=0 then []else _)
        rw[af rfl,eh]
       have bj:wr.cell? ⟨B,800,none⟩=some (.int .i64 s.nd):=i.nd;have ei:=i.fz 800;have ej:=i.fz 801;have cs:Dec.rshD k s={ ({ s with D:=Dec.ow s.D 0 (zs.map Dec.ch),dp:=dp',trunc:=s.trunc||Dec.over 0 (zs.map Dec.ch) }:Dec.Dc)with nd:=W2 }:=by
        unfold Dec.rshD;rw[<-dn,ci.o,<-d0.o,<-ab,dc]
       have b5:=Z cs;have eq:W2<=800:=by omega
       clear hr hz t K i ab dn cs hg;go_wp2_with fail
       refine(aBj B (Dec.rshD k s) _ ?_ ?_).mono ?_
       ·rw[b5.o];exact a3.o.setNdV W2 _ rfl
       ·rw[b5.o];exact eq
       rintro e w' ⟨rfl,c4,c6⟩;have ds:=Z c4;have d2:=Z c6;clear c4 c6;go_wp2
       go_end0
       exact⟨rfl,ds.o,(a5.o.setCell _ _ (fun _=>rfl)).trans d2.o⟩
      ·cases f with
       | zero=>exact absurd hr ad
       | succ f =>
        have e8:(0:Int)<N:=by omega
        obtain⟨q,hq⟩:∃q,N / 2^k=q:=⟨_,rfl⟩
        have cp:(N:Int) / 2^k=(q:Int):=by rw[rP,hq]
        have q9:q<=9:=by
         have:N / 2^k<10:=(ko (ar k)).2 t;omega
        obtain⟨R,p⟩:∃R,N%2^k=R:=⟨_,rfl⟩
        have Q:N<18446744073709551616:=by have:=J.o;omega
        have co:bits .and .u64 (N:Int) (MK:Int)=(R:Int):=by rw[<-cb.o,aEF N k Q k2,p]
        obtain⟨N',P⟩:∃N',R*10=N':=⟨_,rfl⟩
        have e1:IntKind.u64.wrap ((R:Int)*10)=(N':Int):=by
         rw[jD];have:=gf N (ar k);have:=J.o;omega
        have z:Dec.rest k N=N':=by unfold Dec.rest;rw[p,P]
        have a8:Dec.restN k f N'=0:=by rw[<-z];exact hr
        have a9:(zs++[q])++Dec.out3 k (f+1) N'=Dec.fullR k (Dec.dgs s.D s.nd):=by
         rw[<-hz,cv];show _=zs++(if N=0 then []else N / 2^k :: Dec.out3 k (f+1) (Dec.rest k N))
         rw[ae ad,hq,z];rfl
        have v:N'<10*2^k:=by rw[<-z];exact Dec.rest_lt k N
        have V:((Dec.ch q).toNat:Int)=(q:Int)+48:=by rw[Dec.ch_nat q (by omega)];omega
        have aa:=Z a8;have bh:=Z a9;have al:=Z v;have bd:=Z V;have e7:=i.fz 803;have fB:=i.fz W2;have ey:wr.cell? ⟨B,803,none⟩=some (.bool _):=i.trunc;by_cases c8:zs.length<800
        ·have c3:zs.length=W2:=by omega
         have cj:=Z c3;have ac:W2<800:=by omega
         obtain⟨ef,eg⟩:∃x:Value,wr.cell? ⟨B,W2,none⟩=some x:=⟨_,i.byte W2 (by rw[Dec.ow_len _ _ _ A.o.len];exact ac)⟩
         clear hr hz t K i hg ab ad hq p Q P z a8 a9 v V c3;go_wp2
         go_roundg f
         case measure=>have:=HG.o;omega
         case rel =>
          refine⟨f,N',zs++[q],rfl,?_,rfl,aa.o,bh.o,al.o,a5.o.setCell _ _ (fun _=>rfl),?_⟩
          ·exact az (Value.int .i64) (by rw[ax,cj.o,jx];omega)
          ·have b0:(zs.map Dec.ch).length=W2:=by rw[dc,cj.o]
           have:=a3.o.setByte W2 ac (Dec.ch q) _ bd.o.symm;rw[kt,pg,<-Dec.ow_snoc _ _ _ A.o.len (by omega),b0,Dec.over_snoc_in _ _ (by omega)];exact this
        ·have bx:800<=(zs.map Dec.ch).length:=by rw[dc];omega
         have ac:W2=800:=by omega
         subst ac;have a4:=Z bx;by_cases h0:q=0
         ·subst h0;clear hr hz t K i hg ab ad hq p Q P z a8 a9 v V bx;go_wp2
          go_roundg f
          case measure=>have:=HG.o;omega
          case rel =>
           refine⟨f,N',zs++[0],rfl,?_,rfl,aa.o,bh.o,al.o,a5.o,?_⟩
           ·exact az (Value.int .i64) (by rw[ax,jx];omega)
           ·rw[kt,pg,<-Dec.ow_full _ _ _ a4.o A.o.len,Dec.over_snoc_out _ _ a4.o];have e0:(Dec.ch 0 !=48)=false:=by decide
            rw[e0,rk];exact a3.o
         ·have fd:(0:Int)<q:=by omega
          clear hr hz t K i hg ab ad hq p Q P z a8 a9 v V bx;go_wp2
          go_roundg f
          case measure=>have:=HG.o;omega
          case rel =>
           refine⟨f,N',zs++[q],rfl,?_,rfl,aa.o,bh.o,al.o,a5.o.setCell _ _ (fun _=>rfl),?_⟩
           ·exact az (Value.int .i64) (by rw[ax,jx];omega)
           ·rw[kt,pg,<-Dec.ow_full _ _ _ a4.o A.o.len,Dec.over_snoc_out _ _ a4.o];have e0:(Dec.ch q !=48)=true:=by
             rw[ct];intro e;have:=az UInt8.toNat e;rw[Dec.ch_nat q (by omega)]at this
             have e4:(48:UInt8).toNat=48:=rfl;omega
            rw[e0,rj,rj];exact a3.o.setTr true
