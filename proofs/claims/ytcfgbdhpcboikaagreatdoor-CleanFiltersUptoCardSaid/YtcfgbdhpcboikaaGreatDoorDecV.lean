/-
The slow decimals: decimal.set at a numeral.
-/
import Derived.Test.YtcfgbdhpcboikaaGreatDoorExact
namespace Go.Proofs.YtcfgbdhpcboikaaGreatDoor
set_option maxHeartbeats 16000000
set_option maxRecDepth 100000
open Go.RowKit
theorem aBY {n:Nat}:n<=n:=ah n
def aPY:U:=List.replicate 800 0
theorem aLJ:aPY.length=800:=ix
def aLH:Dec.Dc:=⟨aPY,0,0,false,false⟩
def tW (s:Dec.Dc)(c:UInt8):Dec.Dc :=
 if c=46 then { s with dp:=s.nd }else if c=48/\s.nd=0 then { s with dp:=s.dp-1 }else { s with D:=s.D.set s.nd c,nd:=s.nd+1 }
def jC (neg:Bool)(l:U):Dec.Dc:=l.foldl tW { aLH with neg:=neg }
theorem aCp (neg:Bool)(l:U)(c:UInt8):jC neg (l++[c])=tW (jC neg l) c:=by simp[jC]
structure SOk (s:Dec.Dc) (r:RS) (neg:Bool) (k:Nat):Prop where
 len:s.D.length=800
 nd:s.nd=r.nd
 dp:s.dp=r.dp
 le:s.nd<=k
 neg:s.neg=neg
 tr:s.trunc=false
 dig:∀c∈s.D.take s.nd,48<=c.toNat/\c.toNat<=57
 head:∀c,(s.D.take s.nd).head?=some c->c≠48
theorem aMX {s:Dec.Dc}{r:RS}{neg:Bool}{k:Nat}{c:UInt8}(h:SOk s r neg k)(J:k<800)(A:cR c=true):SOk (tW s c) (dJ r c) neg (k+1):=by
 obtain⟨l,i,q,F,m,n,o,p⟩:=h;unfold tW dJ;by_cases j:c=46;{rw[af j,af j];exact⟨l,i,by show(s.nd:Int)=r.nd;rw[i],by show s.nd<=k+1;omega,m,n,o,p⟩};{rw[ae j,ae j];have hd:aE c=true:=by{simpa [cR,j]using A};have z:=eE c hd;by_cases f:c=48/\s.nd=0;{rw[af f,af ⟨f.1,by rw[<-i];exact f.2⟩];exact⟨l,i,by show s.dp-1=r.dp-1;rw[q],by show s.nd<=k+1;omega,m,n,o,p⟩};{rw[ae f,ae (show ¬(c=48/\r.nd=0) by rw[<-i];exact f)];have B:s.nd<s.D.length:=by{omega};have u:(s.D.set s.nd c).take (s.nd+1)=s.D.take s.nd++[c]:=by{rw[rh,rl B];congr 1;rw[List.take_set_of_le aBY]};have E:∀d:RS,d.nd=r.nd+1->s.nd+1=d.nd:=fun d e=>by{omega};have rest:∀d:RS,d.nd=r.nd+1->d.dp=r.dp->SOk { s with D:=s.D.set s.nd c,nd:=s.nd+1 } d neg (k+1):=by{intro d v w;refine⟨by rw[mw];exact l,E d v,by show s.dp=d.dp;rw[q,w],by show s.nd+1<=k+1;omega,m,n,?_,?_⟩;{intro x hx;rw[show(({ s with D:=s.D.set s.nd c,nd:=s.nd+1 }:Dec.Dc).D.take ({ s with D:=s.D.set s.nd c,nd:=s.nd+1 }:Dec.Dc).nd)=s.D.take s.nd++[c]from u]at hx;rcases cu.1 hx with g|g;{exact o x g};{rw[fh.1 g];exact z}};{intro x hx;rw[show(({ s with D:=s.D.set s.nd c,nd:=s.nd+1 }:Dec.Dc).D.take ({ s with D:=s.D.set s.nd c,nd:=s.nd+1 }:Dec.Dc).nd)=s.D.take s.nd++[c]from u]at hx;by_cases t:s.nd=0;{rw[t]at hx;have e:x=c:=by{simpa using hx.symm};rw[e];exact fun y=>f ⟨y,t⟩};{have e:(s.D.take s.nd++[c]).head?=(s.D.take s.nd).head?:=by{cases hq:s.D.take s.nd with|nil=>{have C:=az List.length hq;rw[bu,db]at C;omega}|cons a b=>rfl};rw[e]at hx;exact p x hx}}};split;{exact rest _ rfl rfl};{exact rest _ rfl rfl}}}
theorem aFZ (neg:Bool)(l:U)(b:l.length<=800)(h:∀c∈l,cR c=true):SOk (jC neg l) (aO l) neg l.length:=by
 induction l using gX with|h0=>exact⟨aLJ,rfl,rfl,ah _,rfl,rfl,fun c a=>(by cases (show c∈([]:U)from a)),fun c a=>(by cases (show([]:U).head?=some c from a))⟩|h1 l c ih=>{rw[ax]at b;rw[aCp,dG,ax];exact aMX (ih (by simp at b;omega) (fun x hx=>h x (by simp[hx]))) (by simp at b;omega) (h c (by simp))}
def aFQ (neg:Bool)(l:U)(ev:Int):Dec.Dc:={ jC neg l with dp:=(aO l).place+ev }
def aNA (B:Nat)(s:Dec.Dc)(w:H)(e:Ending)(w':H):Prop:=e=.returned (.bool true)/\aC w' B s/\aD (· = B) w w'
theorem aO5 (B:Nat)(s:I)(neg:Bool)(a q:Nat)(w:H)(h:aC w B aLH)(hs:s.size<=40)(ad:xU s neg a)(N:nP s a q)(ev:Int)(hE:aBs s q ev) :
  Y 240 #[.pointer (some ⟨B,0,none⟩),.string s] w (aNA B (aFQ neg (aM s a q) ev) w):=by
 obtain⟨h0,ad⟩:=ad;have m:=N.lt;have dl:=N.le;have L:=Z N;have HS:=Z ad;have d5:¬s=ByteArray.empty:=by{rintro rfl;simp at h0};have HE:=Z hE;have cs:=Z N.dig;have c6:w.cell? ⟨B,802,none⟩=some (.bool false):=h.neg;have c7:w.cell? ⟨B,803,none⟩=some (.bool false):=h.trunc;have c8:=h.fz 802;have c9:=h.fz 803;have H':=Z h;clear N ad hE h;obtain⟨R,hR⟩:=ex (aO (aM s a q));have dk:=wJ s a q L.o q (b6 m) aBY;have W:=lG s a q (b6 m) dl;have cm:∀j,a<=j->j<=q->SOk (jC neg (aM s a j)) (aO (aM s a j)) neg 40:=by{intro j h1 h2;have hl:=lG s a j h1 (by omega);obtain⟨c3,a2,a3,a4,a5,a6,a7,c4⟩:=aFZ neg (aM s a j) (by omega) (wJ s a q L.o j h1 h2);exact⟨c3,a2,a3,by omega,a5,a6,a7,c4⟩};have b4:=Z cm;have c1:=Z hR;clear cm hR dk W;go_enter Tryz.func240,Tryz.ntmps240;go_upto_block 0 with fail;go_cut [5] (fun b wx=>b=.int .i64 a/\aC wx B { aLH with neg:=neg }/\aD (· = B) w wx)
 case first =>
  as_aux_lemma =>
   rcases HS.o with⟨rfl,rfl,g1,g2⟩|⟨rfl,rfl,g1,g2⟩
   ·as_aux_lemma =>
     go_wp2_with fail
     go_meet
     case rel=>exact⟨rfl,(H'.o.setNeg false).setTr false,((aD.refl (· = B) _).setCell _ _ (fun _=>rfl)).setCell _ _ (fun _=>rfl)⟩
   ·as_aux_lemma =>
     go_wp2_with fail
     go_meet
     case rel=>exact⟨rfl,((H'.o.setNeg false).setTr false).setNeg true,(((aD.refl (· = B) _).setCell _ _ (fun _=>rfl)).setCell _ _ (fun _=>rfl)).setCell _ _ (fun _=>rfl)⟩
 case rest =>
  as_aux_lemma =>
   obtain⟨rfl,b5,cb⟩:=hcut;have co:=Z b5;have cw:=Z cb;clear b5 cb c6 c7 c8 c9;go_upto_block 1 with fail
   go_cut [5,6,7] (fun i dot dg wx=>i=.int .i64 q/\dot=.bool (aO (aM s a q)).dot/\dg=.bool true/\aC wx B (jC neg (aM s a q))/\aD (· = B) w wx)
   case first =>
    as_aux_lemma =>
     go_wp2_with fail
     go_loopw [5,6,7] (fun i dot dg wr=>∃j:Nat,a<=j/\j<=q/\i=.int .i64 j/\dot=.bool (aO (aM s a j)).dot/\dg=.bool (aO (aM s a j)).dig/\aC wr B (jC neg (aM s a j))/\aD (· = B) w wr) (fun i _ _ _=>q-(intOf i).toNat)
     case atStart=>exact⟨a,ah _,b6 m,rfl,by rw[gH];rfl,by rw[gH];rfl,by rw[gH];exact co.o,cw.o⟩
     case round =>
      as_aux_lemma =>
       obtain⟨j,hp,hj,rfl,rfl,rfl,z,hK⟩:=hrel;have p:=b4.o j hp hj;have d:=Z z;have y:=Z hK;obtain⟨S,hS⟩:∃S,jC neg (aM s a j)=S:=⟨_,rfl⟩
       obtain⟨r,hr⟩:∃r,aO (aM s a j)=r:=⟨_,rfl⟩
       rw[hS]at p d
       rw[hr]at p ⊢
       have e1:=p.nd;have e2:=p.le;have e3:-100<=S.dp/\S.dp<=100:=by
        have:=aCd s a q L.o j hp hj;rw[hr]at this
        have h1:=this.lo;have h2:=this.hi;have h3:=p.dp;omega
       obtain⟨e3,e4⟩:=e3;obtain⟨n,C⟩:∃n,S.nd=n:=⟨_,rfl⟩
       have c5:wr.cell? ⟨B,800,none⟩=some (.int .i64 n):=by rw[<-C];exact d.o.nd
       have bk:wr.cell? ⟨B,801,none⟩=some (.int .i64 S.dp):=d.o.dp;have d4:=d.o.fz 800;have bl:=d.o.fz 801;rw[C]at e2
       have P:=Z C;have bh:=Z hS;have ao:=Z hr;have bj:=Z p;clear z hK hS hr C e1 p;by_cases cj:j<q
       ·have ac:j<s.size:=by omega
        have a9:=L.o.ch j ac hp cj;have al:aO (aM s a (j+1))=dJ r s[j]:=by rw[iP s a j hp ac,dG,ao.o]
        have an:jC neg (aM s a (j+1))=tW S s[j]:=by rw[iP s a j hp ac,aCp,bh.o]
        by_cases f:s[j]=46
        ·have hd:=L.o.dots j ac hp cj f;rw[ao.o]at hd
         have f1:((s[j].toNat:Int)==95)=false:=by rw[f];rfl
         have f2:((s[j].toNat:Int)==46)=true:=by rw[f];rfl
         have X:(aO (aM s a (j+1))).dot=true/\(aO (aM s a (j+1))).dig=r.dig:=by rw[al];unfold dJ;rw[af f];exact⟨rfl,rfl⟩
         have n2:jC neg (aM s a (j+1))={ S with dp:=S.nd }:=by rw[an];unfold tW;rw[af f]
         have v:=Z X;have N2:=Z n2;rw[hd];clear a9 f al an X n2 hd;as_aux_lemma =>
          go_wp2_with fail
          go_roundw
          case measure=>(simp[intOf];try omega)
          case rel=>exact⟨j+1,by omega,by omega,by go_num,by rw[v.o.1],by rw[v.o.2],by rw[N2.o];exact d.o.setDpV _ _ (by rw[P.o]),y.o.setCell _ _ (fun _=>rfl)⟩
        ·have bq:aE s[j]=true:=by simpa [cR,f]using a9
         obtain⟨d1,d2⟩:=eE s[j] bq;have f1:((s[j].toNat:Int)==95)=false:=by simp;omega
         have f2:((s[j].toNat:Int)==46)=false:=by simp;omega
         by_cases hz:s[j]=48/\n=0
         ·obtain⟨be,b1⟩:=hz;have f3:((s[j].toNat:Int)==48)=true:=by rw[be];rfl
          have f4:((n:Int)==0)=true:=by simp[b1]
          have a0:r.nd=0:=by have:=bj.o.nd;have:=P.o;omega
          have X:(aO (aM s a (j+1))).dot=r.dot/\(aO (aM s a (j+1))).dig=true:=by rw[al];unfold dJ;rw[ae f,af ⟨be,a0⟩];exact⟨rfl,rfl⟩
          have n2:jC neg (aM s a (j+1))={ S with dp:=S.dp-1 }:=by rw[an];unfold tW;rw[ae f,af ⟨be,by rw[P.o];exact b1⟩]
          have v:=Z X;have N2:=Z n2;clear a9 f al an X n2 be b1 a0 bq;as_aux_lemma =>
           go_wp2_with fail
           go_roundw
           case measure=>(simp[intOf];try omega)
           case rel=>exact⟨j+1,by omega,by omega,by go_num,by rw[v.o.1],by rw[v.o.2],by rw[N2.o];exact d.o.setDp _,y.o.setCell _ _ (fun _=>rfl)⟩
         ·have a0:¬(s[j]=48/\r.nd=0):=by
           intro g;have:=bj.o.nd;have:=P.o;exact hz ⟨g.1,by omega⟩
          have X:(aO (aM s a (j+1))).dot=r.dot/\(aO (aM s a (j+1))).dig=true:=by
           rw[al];unfold dJ;rw[ae f,ae a0];split<;>exact⟨rfl,rfl⟩
          have n2:jC neg (aM s a (j+1))={ S with D:=S.D.set n s[j],nd:=n+1 }:=by rw[an];unfold tW;rw[ae f,ae (by rw[P.o];exact hz),P.o]
          have v:=Z X;have N2:=Z n2;have fB:=d.o.fz n;have n8:n<800:=by omega
          obtain⟨ds,d0⟩:∃x:Value,wr.cell? ⟨B,n,none⟩=some x:=⟨_,d.o.byte n (by rw[bj.o.len];exact n8)⟩
          clear a9 al an X n2 a0 bq;by_cases av:s[j]=48
          ·have f3:((s[j].toNat:Int)==48)=true:=by rw[av];rfl
           have f4:((n:Int)==0)=false:=by
            have:n≠0:=fun e=>hz ⟨av,e⟩
            simp;omega
           clear f hz av;as_aux_lemma =>
            go_wp2_with fail
            go_still_tail 11,(by kernel_rfl)
            go_wp2_with fail
            go_roundw
            case measure=>(simp[intOf];try omega)
            case rel=>exact⟨j+1,by omega,by omega,by go_num,by rw[v.o.1],by rw[v.o.2],by rw[N2.o];exact(((d.o.drewN 1).setByte n n8 s[j] _ rfl).setNdV (n+1) _ (by omega)),((y.o.drewN 1).setCell _ _ (fun _=>rfl)).setCell _ _ (fun _=>rfl)⟩
          ·have f3:((s[j].toNat:Int)==48)=false:=by simp;intro e;exact av (de.1 (by simp at e ⊢;omega))
           clear f hz av;as_aux_lemma =>
            go_wp2_with fail
            go_still_tail 11,(by kernel_rfl)
            go_wp2_with fail
            go_roundw
            case measure=>(simp[intOf];try omega)
            case rel=>exact⟨j+1,by omega,by omega,by go_num,by rw[v.o.1],by rw[v.o.2],by rw[N2.o];exact(((d.o.drewN 1).setByte n n8 s[j] _ rfl).setNdV (n+1) _ (by omega)),((y.o.drewN 1).setCell _ _ (fun _=>rfl)).setCell _ _ (fun _=>rfl)⟩
       ·obtain rfl:j=q:=by omega
        have bs:r.dig=true:=by rw[<-ao.o];exact cs.o
        rw[bs];by_cases bd:j=s.size
        ·have dm:¬j<s.size:=by omega
         have HQ:=Z bd;clear bd bs;as_aux_lemma =>
          go_wp2_with fail
          go_meet
          case rel=>exact⟨rfl,by rw[ao.o],rfl,by rw[bh.o];exact d.o,y.o⟩
        ·have ac:j<s.size:=by omega
         rcases L.o.stop ac with l|l
         all_goals
          have f1:((s[j].toNat:Int)==95)=false:=by rw[l];rfl
          have f2:((s[j].toNat:Int)==46)=false:=by rw[l];rfl
          have d1:57<s[j].toNat:=by rw[l];decide
          clear l bs;as_aux_lemma =>
           go_wp2_with fail
           go_meet
           case rel=>exact⟨rfl,by rw[ao.o],rfl,by rw[bh.o];exact d.o,y.o⟩
   case rest =>
    as_aux_lemma =>
     obtain⟨rfl,rfl,rfl,z,hK⟩:=hcut;have p:=b4.o q (b6 m) aBY;have rb:=aCd s a q L.o q (b6 m) aBY;obtain⟨S,hS⟩:∃S,jC neg (aM s a q)=S:=⟨_,rfl⟩
     have b0:aFQ neg (aM s a q) ev={ S with dp:=(aO (aM s a q)).place+ev }:=by unfold aFQ;rw[hS]
     rw[<-c1.o]at p rb b0 ⊢
     rw[hS]at p z
     have e2:=p.le;have e1:=p.nd;have e5:=p.dp;have p1:-100<=R.place/\R.place<=100:=by
      have h1:=rb.lo;have h2:=rb.hi;unfold RS.place;split<;>omega
     obtain⟨p1,p2⟩:=p1;have ck:R.place=if R.dot=true then S.dp else S.nd:=by unfold RS.place;rw[e5,e1]
     obtain⟨n,C⟩:∃n,S.nd=n:=⟨_,rfl⟩
     have d:=Z z;have y:=Z hK;have b3:=Z b0;have c0:=Z ck;have P:=Z C;have c5:wc.cell? ⟨B,800,none⟩=some (.int .i64 n):=by rw[<-C];exact z.nd
     have bk:wc.cell? ⟨B,801,none⟩=some (.int .i64 S.dp):=z.dp;have bl:=z.fz 801;rw[C]at e2
     clear z hK hS b0 ck p rb e1 e5 C;go_upto_if 120 with fail
     go_cut [5,6] (fun i dd wx=>i=.int .i64 q/\dd=.bool R.dot/\aC wx B { S with dp:=R.place }/\aD (· = B) w wx)
     case first =>
      as_aux_lemma =>
       have W:=c0.o;cases hdot:R.dot
       ·rw[hdot]at W
        have bf:=Z W;clear W;as_aux_lemma =>
         go_wp2_with fail
         go_meet
         case rel=>exact⟨rfl,by rw[hdot],d.o.setDpV _ _ (by rw[bf.o,ae (by decide),P.o]),y.o.setCell _ _ (fun _=>rfl)⟩
       ·rw[hdot]at W
        have bf:=Z W;clear W;as_aux_lemma =>
         go_wp2_with fail
         go_meet
         case rel=>exact⟨rfl,by rw[hdot],by have e:=bf.o;simp only[ed]at e;rw[e];exact d.o,y.o⟩
     case rest =>
      as_aux_lemma =>
       obtain⟨rfl,rfl,a8,cd⟩:=hcut;have a1:=Z a8;have b2:=Z cd;have bk:wc.cell? ⟨B,801,none⟩=some (.int .i64 R.place):=a8.dp;have bl:=a8.fz 801;clear a8 cd;have dn:=HE.o;rcases dn with⟨hq,rfl⟩|⟨hq,t,es,ad,dr,aa,rfl⟩
       ·have dm:¬q<s.size:=by omega
        have HQ:=Z hq;have d3:((q:Int) !=s.size)=false:=ii.2 (by omega);clear hq;as_aux_lemma =>
         go_wp2_with fail
         go_ret;refine⟨rfl,?_,b2.o⟩;rw[b3.o,Int.add_zero];exact a1.o
       ·have bd:q<s.size:=by omega
        have hl:=aNp s[q] (L.o.stop bd);go_upto_if 138 with(go_at_call 251;refine(aA3 _ _).mono ?_;rintro e w' ⟨rfl,rfl⟩)
        go_cut [5] (fun i wx=>i=.int .i64 s.size/\aC wx B { S with dp:=R.place+(bX (aM s t s.size):Nat)*es }/\aD (· = B) wc wx)
        case first =>
         as_aux_lemma =>
          have bx:=aa t dr aBY;have ab:=Z aa;rcases ad with⟨rfl,rfl,A⟩|⟨rfl,rfl,A⟩|⟨rfl,rfl,A⟩
          ·have c:=eE _ A;have f1:((s[q+1].toNat:Int)==43)=false:=by simp;omega
           have f2:((s[q+1].toNat:Int)==45)=false:=by simp;omega
           have f3:=c.1;have f4:=c.2;clear c A bx aa hl;go_wp2_with fail
           go_loopg [5,9] (s.size-(q+1)) (fun g i e wx=>∃j,q+1<=j/\j<=s.size/\i=.int .i64 (j:Nat)/\e=.int .i64 (bX (aM s (q+1) j):Nat)/\g=s.size-j/\wx=wc)
           case atStart=>exact⟨q+1,ah _,by omega,by go_num,by rw[gH];rfl,rfl,rfl⟩
           case round =>
            as_aux_lemma =>
             obtain⟨j,u,aw,rfl,rfl,Q,rfl⟩:=hrel;have J:=Z Q;have ef:=nH s (q+1) j u aw ab.o;obtain⟨E,k⟩:=ex (bX (aM s (q+1) j))
             rw[<-k]at ef
             rw[<-k];have F:=Z k;clear Q k;by_cases m:j<s.size
             ·have c:=eE _ (ab.o j m u);have g1:((s[j].toNat:Int)==95)=false:=by simp;omega
              have g3:=c.1;have g4:=c.2;clear c;have V:bX (aM s (q+1) (j+1))=eI E s[j]:=by rw[iP s (q+1) j u m,iN,<-F.o]
              have M:=Z V;clear V;by_cases l:E<10000
              ·as_aux_lemma =>
                go_wp2_with fail
                go_roundg (s.size-(j+1))
                case measure=>have:=J.o;omega
                case rel=>exact⟨j+1,by omega,by omega,by go_num,by rw[M.o];unfold eI;rw[af l];go_num,rfl,by trivial⟩
              ·as_aux_lemma =>
                go_wp2_with fail
                go_roundg (s.size-(j+1))
                case measure=>have:=J.o;omega
                case rel=>exact⟨j+1,by omega,by omega,by go_num,by rw[M.o];unfold eI;rw[ae l],rfl,by trivial⟩
             ·have T:s.size=j:=by omega
              have K:=Z T;clear T;as_aux_lemma =>
               go_wp2_with fail
               go_meet
               case rel =>
                refine⟨by rw[K.o],?_,(aD.refl (· = B) _).setCell _ _ (fun _=>rfl)⟩;refine a1.o.setDpV _ _ ?_;rw[K.o,<-F.o];first|rfl|omega
          ·have c:=eE _ (aa (q+1+1) (by omega) (by omega));have f1:((s[q+1].toNat:Int)==43)=true:=by rw[A];rfl
           have f3:=c.1;have f4:=c.2;clear c A bx aa hl;go_wp2_with fail
           go_loopg [5,9] (s.size-(q+2)) (fun g i e wx=>∃j,q+2<=j/\j<=s.size/\i=.int .i64 (j:Nat)/\e=.int .i64 (bX (aM s (q+2) j):Nat)/\g=s.size-j/\wx=wc)
           case atStart=>exact⟨q+2,ah _,by omega,by go_num,by rw[gH];rfl,rfl,rfl⟩
           case round =>
            as_aux_lemma =>
             obtain⟨j,u,aw,rfl,rfl,Q,rfl⟩:=hrel;have J:=Z Q;have ef:=nH s (q+2) j u aw ab.o;obtain⟨E,k⟩:=ex (bX (aM s (q+2) j))
             rw[<-k]at ef
             rw[<-k];have F:=Z k;clear Q k;by_cases m:j<s.size
             ·have c:=eE _ (ab.o j m u);have g1:((s[j].toNat:Int)==95)=false:=by simp;omega
              have g3:=c.1;have g4:=c.2;clear c;have V:bX (aM s (q+2) (j+1))=eI E s[j]:=by rw[iP s (q+2) j u m,iN,<-F.o]
              have M:=Z V;clear V;by_cases l:E<10000
              ·as_aux_lemma =>
                go_wp2_with fail
                go_roundg (s.size-(j+1))
                case measure=>have:=J.o;omega
                case rel=>exact⟨j+1,by omega,by omega,by go_num,by rw[M.o];unfold eI;rw[af l];go_num,rfl,by trivial⟩
              ·as_aux_lemma =>
                go_wp2_with fail
                go_roundg (s.size-(j+1))
                case measure=>have:=J.o;omega
                case rel=>exact⟨j+1,by omega,by omega,by go_num,by rw[M.o];unfold eI;rw[ae l],rfl,by trivial⟩
             ·have T:s.size=j:=by omega
              have K:=Z T;clear T;as_aux_lemma =>
               go_wp2_with fail
               go_meet
               case rel =>
                refine⟨by rw[K.o],?_,(aD.refl (· = B) _).setCell _ _ (fun _=>rfl)⟩;refine a1.o.setDpV _ _ ?_;rw[K.o,<-F.o];first|rfl|omega
          ·have c:=eE _ (aa (q+1+1) (by omega) (by omega));have f1:((s[q+1].toNat:Int)==43)=false:=by rw[A];rfl
           have f2:((s[q+1].toNat:Int)==45)=true:=by rw[A];rfl
           have f3:=c.1;have f4:=c.2;clear c A bx aa hl;go_wp2_with fail
           go_loopg [5,9] (s.size-(q+2)) (fun g i e wx=>∃j,q+2<=j/\j<=s.size/\i=.int .i64 (j:Nat)/\e=.int .i64 (bX (aM s (q+2) j):Nat)/\g=s.size-j/\wx=wc)
           case atStart=>exact⟨q+2,ah _,by omega,by go_num,by rw[gH];rfl,rfl,rfl⟩
           case round =>
            as_aux_lemma =>
             obtain⟨j,u,aw,rfl,rfl,Q,rfl⟩:=hrel;have J:=Z Q;have ef:=nH s (q+2) j u aw ab.o;obtain⟨E,k⟩:=ex (bX (aM s (q+2) j))
             rw[<-k]at ef
             rw[<-k];have F:=Z k;clear Q k;by_cases m:j<s.size
             ·have c:=eE _ (ab.o j m u);have g1:((s[j].toNat:Int)==95)=false:=by simp;omega
              have g3:=c.1;have g4:=c.2;clear c;have V:bX (aM s (q+2) (j+1))=eI E s[j]:=by rw[iP s (q+2) j u m,iN,<-F.o]
              have M:=Z V;clear V;by_cases l:E<10000
              ·as_aux_lemma =>
                go_wp2_with fail
                go_roundg (s.size-(j+1))
                case measure=>have:=J.o;omega
                case rel=>exact⟨j+1,by omega,by omega,by go_num,by rw[M.o];unfold eI;rw[af l];go_num,rfl,by trivial⟩
              ·as_aux_lemma =>
                go_wp2_with fail
                go_roundg (s.size-(j+1))
                case measure=>have:=J.o;omega
                case rel=>exact⟨j+1,by omega,by omega,by go_num,by rw[M.o];unfold eI;rw[ae l],rfl,by trivial⟩
             ·have T:s.size=j:=by omega
              have K:=Z T;clear T;as_aux_lemma =>
               go_wp2_with fail
               go_meet
               case rel =>
                refine⟨by rw[K.o],?_,(aD.refl (· = B) _).setCell _ _ (fun _=>rfl)⟩;refine a1.o.setDpV _ _ ?_;rw[K.o,<-F.o];first|rfl|omega
        case rest =>
         as_aux_lemma =>
          obtain⟨rfl,ca,ci⟩:=hcut;have cp:=Z ca;have cz:=Z ci;have c2:=b3;clear ca ci bk bl hl;as_aux_lemma =>
           go_wp2_with fail
           go_ret;refine⟨rfl,?_,b2.o.trans cz.o⟩;rw[c2.o];exact cp.o
