/-
The slow decimals: Shift, shouldRoundUp, RoundedInteger.
-/
import Derived.Test.YtcfgbdhpcboikaaGreatDoorDecS
namespace Go.Proofs.YtcfgbdhpcboikaaGreatDoor
set_option maxHeartbeats 2000000
set_option maxRecDepth 100000
open Go.RowKit
def jB:Nat->Dec.Dc->Dec.Dc
 | 0,s=>s
 | j+1,s=>jB j (Dec.rsh 60 s)
theorem aHl (B k:Nat)(s:Dec.Dc)(w:H)(T:oC w B)(h:aC w B s)(b:Dec.Fine s)(l:1<=s.nd)(k1:1<=k)(k2:k<61)(p1:-100000000<=s.dp)(p2:s.dp<=100000000) :
  Y 263 #[.pointer (some ⟨B,0,none⟩),.int .i64 k] w (kU B (Dec.lsh k s) w):=by
 have a:∀u,oC u B->aC u B s->Y 288 #[.pointer (some ⟨B,0,none⟩),.int .u64 k] u (kU B (Dec.lsh k s) u):=fun u m hd=>aOr B k s u m hd b l k1 k2 p1 p2;have n:=h.nd;have p:((s.nd:Int)==0)=false:=ai.2 (by omega);have r:(0:Int)<k:=by{omega};have q:¬(60:Int)<k:=by{omega};have d:=Z h;have j:=Z T;have i:=Z a;clear h T a b;go_enter Tryz.func263,Tryz.ntmps263;go_wp2_with fail;go_loopw [1] (fun v wr=>v=.int .i64 (k:Int)/\wr=w) (fun _ _=>0);case atStart=>exact⟨rfl,rfl⟩
 case round =>obtain⟨rfl,rfl⟩:=hrel;go_wp2_with fail;refine(i.o _ j.o d.o).mono ?_;rintro e w' ⟨rfl,hd,c⟩;have f:=Z hd;have g:=Z c;clear hd c;go_wp2;go_end0;exact⟨rfl,f.o,g.o⟩
theorem aHW (j:Nat):∀(s:Dec.Dc),Dec.Fine s->1<=s.nd->Dec.Fine (jB j s)/\1<=(jB j s).nd/\(jB j s).dp<=s.dp/\s.dp-820*j<=(jB j s).dp:=by
 induction j with|zero=>{intro s h k;exact⟨h,k,ig _,by show s.dp-820*0<=s.dp;omega⟩}|succ j ih=>{intro s h k;obtain⟨a,b,c,d,_,_⟩:=Dec.rsh_fine 60 s (by decide) (by decide) h k;obtain⟨e,f,g,i⟩:=ih _ a b;exact⟨e,f,Int.le_trans g c,by show s.dp-820*((j+1:Nat):Int)<=(jB j (Dec.rsh 60 s)).dp;omega⟩}
theorem aHm (B j k:Nat)(s:Dec.Dc)(w:H)(h:aC w B s)(D:Dec.Fine s)(S:1<=s.nd)(k1:1<=k)(k2:k<61)(hj:j<=10000)(p1:-50000000<=s.dp)(p2:s.dp<=100000000) :
  Y 263 #[.pointer (some ⟨B,0,none⟩),.int .i64 (-((60*j+k:Nat):Int))] w (kU B (Dec.rsh k (jB j s)) w):=by
 obtain⟨n,x⟩:∃n:Int,n=-((60*j+k:Nat):Int):=⟨_,rfl⟩;rw[<-x];have W:=h.nd;have aa:((s.nd:Int)==0)=false:=ai.2 (by omega);have kn:¬(0:Int)<n:=by{omega};have ab:n<0:=by{omega};have F:=Z h;have L:=Z x;have J:=Z D;clear h D x;go_enter Tryz.func263,Tryz.ntmps263;go_wp2_with fail;go_loopw [1] (fun v wr=>∃(i:Nat) (t:Dec.Dc),v=.int .i64 (-((60*i+k:Nat):Int))/\i<=j/\jB i t=jB j s/\Dec.Fine t/\1<=t.nd/\t.dp<=s.dp/\s.dp-820*(j-i:Nat)<=t.dp/\aC wr B t/\aD (· = B) w wr) (fun v _=>(-(intOf v)).toNat);case atStart=>exact⟨j,s,by rw[L.o],ah _,rfl,J.o,S,ig _,by omega,F.o,aD.refl _ _⟩
 case round =>obtain⟨i,t,c,hi,y,a,r,R,X,l,p⟩:=hrel;have z:=Z l;have C:=Z p;have V:=Z a;have A:=Z y;cases i with|zero=>{obtain rfl:=(show _=Value.int .i64 (-(k:Int))from c.trans (az (Value.int .i64) (by omega)));have T:¬(-(k:Int) < -60):=by{omega};have RS:∀u,aC u B t->Y 289 #[.pointer (some ⟨B,0,none⟩),.int .u64 k] u (kU B (Dec.rsh k t) u):=fun u hd=>aHj B k t u hd a r k1 k2 (by omega) (by omega);have g:=Z RS;clear c y a l p RS;go_wp2_with fail;refine(g.o _ z.o).mono ?_;rintro e w' ⟨rfl,hd,b⟩;have d:=Z hd;have f:=Z b;clear hd b;go_wp2;go_end0;refine⟨rfl,?_,C.o.trans f.o⟩;rw[<-A.o];exact d.o}|succ i=>{obtain⟨m,q⟩:∃m:Int,m=-((60*(i+1)+k:Nat):Int):=⟨_,rfl⟩;rw[<-q]at c;subst c;have T:m < -60:=by{omega};have km:-1000000<=m:=by{omega};have K:=Z q;have RS:∀u,aC u B t->Y 289 #[.pointer (some ⟨B,0,none⟩),.int .u64 60] u (kU B (Dec.rsh 60 t) u):=fun u hd=>aHj B 60 t u hd a r (by decide) (by decide) (by omega) (by omega);have g:=Z RS;obtain⟨E,q2,q3,q4,_,_⟩:=Dec.rsh_fine 60 t (by decide) (by decide) a r;have M:=Z E;have P:=Z (Int.le_trans q3 R);have Q:G (s.dp-820*(j-i:Nat)<=(Dec.rsh 60 t).dp):=by{show _<=_;omega};have N:=Z q2;clear y a l p RS q E q2 q3 q4;go_wp2_with fail;refine(g.o _ z.o).mono ?_;rintro e w' ⟨rfl,hd,b⟩;have d:=Z hd;have f:=Z b;clear hd b;go_wp2;go_roundw;(case measure=>(simp[intOf];try omega));case rel=>exact⟨i,Dec.rsh 60 t,az (Value.int .i64) (by have:=K.o;omega),by omega,A.o,M.o,N.o,P.o,Q.o,d.o,C.o.trans f.o⟩}
open Go.RowKit
def dig (s:Dec.Dc)(i:Nat):Nat:=(s.D.getD i 48).toNat
theorem aC.dig {w:H}{B:Nat}{s:Dec.Dc}(h:aC w B s)(i:Nat)(hi:i<800):w.cell? ⟨B,i,none⟩=some (.int .u8 (Go.Proofs.YtcfgbdhpcboikaaGreatDoor.dig s i:Nat)):=by
 have a:i<s.D.length:=by{rw[h.len];exact hi};rw[h.byte i a];unfold Go.Proofs.YtcfgbdhpcboikaaGreatDoor.dig;rw[ku,bc a];rfl
def upD (s:Dec.Dc):Bool :=
 if s.dp<0\/(s.nd:Int)<=s.dp then false
 else if dig s s.dp.toNat=53/\s.dp.toNat+1=s.nd then s.trunc||(decide (0<s.dp.toNat)&&decide ((dig s (s.dp.toNat-1)-48)%2≠0))
 else decide (53<=dig s s.dp.toNat)
theorem aE0 (s:Dec.Dc)(a:Dec.Fine s)(i:Nat)(hi:i<s.nd):48<=dig s i/\dig s i<=57:=by
 have b:i<s.D.length:=by{have:=a.len;have:=a.le;omega};have:=a.dig s.D[i] (iz.2 ⟨i,by omega,rfl⟩);unfold dig;rw[ku,bc b];exact this
theorem aQX (B:Nat)(s:Dec.Dc)(w:H)(h:aC w B s)(b:Dec.Fine s)(p1:-100000000<=s.dp)(p2:s.dp<=100000000) :
  Y 290 #[.pointer (some ⟨B,0,none⟩),.int .i64 s.dp] w fun e w'=>e=.returned (.bool (upD s))/\w=w':=by
 have T:=b.le;have z:=h.nd;have A:=h.trunc;have a:=aE0 s b;have K:=Z h;obtain⟨nd,c⟩:∃nd,s.nd=nd:=⟨_,rfl⟩
 obtain⟨tr,f⟩:∃tr,s.trunc=tr:=⟨_,rfl⟩
 have u0:upD s=if s.dp<0\/(s.nd:Int)<=s.dp then false
  else if dig s s.dp.toNat=53/\s.dp.toNat+1=s.nd then s.trunc||(decide (0<s.dp.toNat)&&decide ((dig s (s.dp.toNat-1)-48)%2≠0))
  else decide (53<=dig s s.dp.toNat):=rfl
 by_cases k:s.dp<0
 ·rw[af (.inl k)]at u0
  rw[u0];clear a b h u0;go_enter Tryz.func290,Tryz.ntmps290
  go_wp2
  go_ret;exact⟨rfl,rfl⟩
 ·by_cases l:(s.nd:Int)<=s.dp
  ·rw[af (.inr l)]at u0
   rw[u0];clear a b h u0 c f;go_enter Tryz.func290,Tryz.ntmps290
   go_wp2
   go_ret;exact⟨rfl,rfl⟩
  ·rw[ae (by omega)]at u0
   obtain⟨i,hi⟩:∃i:Nat,s.dp=(i:Int):=⟨s.dp.toNat,by omega⟩
   rw[hi,eo,c,f]at u0
   rw[hi];rw[c]at z
   rw[f]at A
   have S:i<nd:=by omega
   have J:i<800:=by omega
   have n:=h.dig i J;obtain⟨C,j⟩:∃C,dig s i=C:=⟨_,rfl⟩
   rw[j]at n u0
   have v:=a i (by omega);rw[j]at v
   obtain⟨M,N⟩:=v;by_cases q:C=53
   ·subst q;by_cases m:i+1=nd
    ·rw[af ⟨rfl,m⟩]at u0
     have p:((i:Int)+1==nd)=true:=cn.2 (by omega);cases tr with
     | true =>
      rw[Bool.true_or]at u0
      rw[u0];clear a b h u0 c f hi j k l m;go_enter Tryz.func290,Tryz.ntmps290
      go_wp2
      go_ret;exact⟨rfl,rfl⟩
     | false =>
      rw[jl]at u0
      cases i with
      | zero =>
       rw[show(decide (0<0)&&decide ((dig s (0-1)-48)%2≠0))=false by simp]at u0
       rw[u0];have E:w.cell? ⟨B,0,none⟩=some (.int .u8 53):=n;have x:((0:Int)+1==nd)=true:=p;clear a b h u0 c f hi j k l m n p;have R:((1:Int)==nd)=true:=by simpa using x
       go_enter Tryz.func290,Tryz.ntmps290
       go_wp2
       go_ret;exact⟨rfl,rfl⟩
      | succ i =>
       have t:=h.dig i (by omega);have D:=a i (by omega);obtain⟨d,hd⟩:∃d,dig s i-48=d:=⟨_,rfl⟩
       rw[show dig s i=d+48 by omega]at t
       have P:w.cell? ⟨B,i,none⟩=some (.int .u8 ((d:Int)+48)):=by rw[t];rfl
       have Q:d<=9:=by omega
       rw[show(decide (0<i+1)&&decide ((dig s (i+1-1)-48)%2≠0))=decide (d%2≠0) by rw[show i+1-1=i by omega,hd];simp]at u0
       rw[u0];have E:w.cell? ⟨B,i+1,none⟩=some (.int .u8 53):=n;have L:(0:Int)<(i:Int)+1:=by omega
       have x:((i:Int)+1+1==nd)=true:=by rw[<-p];rfl
       have y:G ((((d:Int)%2 !=0))=decide (d%2≠0)):=by
        show _=_;by_cases g:d%2=0
        ·have u:(((d:Int)%2 !=0))=false:=ii.2 (by omega);rw[u];simp[g]
        ·have u:(((d:Int)%2 !=0))=true:=ct.2 (by omega);rw[u];simp[g]
       clear a b h u0 c f hi j k l m n p t D hd;rw[show((i+1:Nat):Int)=(i:Int)+1 by omega];go_enter Tryz.func290,Tryz.ntmps290
       go_wp2
       go_ret;exact⟨wM y.o,by trivial⟩
    ·have p:((i:Int)+1==nd)=false:=ai.2 (by omega);rw[ae (fun g=>m g.2)]at u0
     rw[u0];clear a b h u0 c f hi j k l m;go_enter Tryz.func290,Tryz.ntmps290
     go_wp2
     go_ret;exact⟨rfl,rfl⟩
   ·rw[ae (fun g=>q g.1)]at u0
    have e5:((C:Int)==53)=false:=ai.2 (by omega);by_cases r:53<=C
    ·rw[bt r]at u0
     rw[u0];have F:(53:Int)<=C:=by omega
     clear a b h u0 c f hi j k l q r;go_enter Tryz.func290,Tryz.ntmps290
     go_wp2
     go_ret;first|exact⟨rfl,rfl⟩|exact⟨by simp,by trivial⟩
    ·rw[bo r]at u0
     rw[u0];have F:¬(53:Int)<=C:=by omega
     clear a b h u0 c f hi j k l q r;go_enter Tryz.func290,Tryz.ntmps290
     go_wp2
     go_ret;first|exact⟨rfl,rfl⟩|exact⟨by simp,by trivial⟩
theorem nS {a b:Int}(h:a=b):Ending.returned (.int .u64 a)=.returned (.int .u64 b):=by rw[h]
def iB (s:Dec.Dc):Nat->Nat
 | 0=>0
 | i+1=>if i<s.nd then (iB s i*10+(dig s i-48))%18446744073709551616 else iB s i*10%18446744073709551616
theorem zX (s:Dec.Dc)(i:Nat):iB s i<18446744073709551616:=by
 cases i with|zero=>{show 0<_;omega}|succ i=>{unfold iB;split<;>exact gf _ (by decide)}
def rF (s:Dec.Dc):Nat :=
 if 20<s.dp then 18446744073709551615 else if upD s then (iB s s.dp.toNat+1)%18446744073709551616 else iB s s.dp.toNat
theorem aMI (B:Nat)(s:Dec.Dc)(w:H)(h:aC w B s)(n:Dec.Fine s)(p1:-100000000<=s.dp)(p2:s.dp<=100000000) :
  Y 278 #[.pointer (some ⟨B,0,none⟩)] w fun e w'=>e=.returned (.int .u64 (rF s:Nat))/\w=w':=by
 have av:=n.le;have al:=h.nd;have an:=h.dp;have K:=aE0 s n;have F:∀u,aC u B s->Y 290 #[.pointer (some ⟨B,0,none⟩),.int .i64 s.dp] u fun e w'=>e=.returned (.bool (upD s))/\u=w':=fun u hu=>aQX B s u hu n p1 p2
 have C:=Z h;have V:=Z K;have aa:=Z F;have j:rF s=if 20<s.dp then 18446744073709551615 else if upD s then (iB s s.dp.toNat+1)%18446744073709551616 else iB s s.dp.toNat:=rfl
 clear h K F n;by_cases L:20<s.dp
 ·rw[af L]at j
  have m:=Z j;clear j;go_enter Tryz.func278,Tryz.ntmps278
  go_wp2
  go_ret;exact⟨by rw[m.o];rfl,rfl⟩
 ·rw[ae L]at j
  obtain⟨up,y⟩:∃up,upD s=up:=⟨_,rfl⟩
  rw[y]at j
  have X:=Z y;have m:=Z j;clear j y;go_enter Tryz.func278,Tryz.ntmps278
  go_wp2_with fail
  go_loop [3,4] (fun f z=>∃i:Nat,i<=s.dp.toNat/\f=.int .i64 (i:Int)/\z=.int .u64 (iB s i:Nat)) (fun f _=>30-(intOf f).toNat)
  case atStart=>exact⟨0,bb _,rfl,rfl⟩
  case round =>
   obtain⟨i,hi,rfl,rfl⟩:=hrel;by_cases hd:(i:Int)<s.dp/\i<s.nd
   ·obtain⟨hd,q⟩:=hd;have ab:i<800:=by omega
    have t:=C.o.dig i ab;have cd:=V.o i q;obtain⟨d,Q⟩:∃d,dig s i-48=d:=⟨_,rfl⟩
    rw[show dig s i=d+48 by omega]at t
    have ao:w.cell? ⟨B,i,none⟩=some (.int .u8 ((d:Int)+48)):=by rw[t];rfl
    have d9:d<=9:=by omega
    obtain⟨A,b⟩:∃A,iB s i=A:=⟨_,rfl⟩
    have k:=zX s i;obtain⟨M,hM⟩:∃M,A*10%18446744073709551616=M:=⟨_,rfl⟩
    obtain⟨A',c⟩:∃A',iB s (i+1)=A':=⟨_,rfl⟩
    have l:iB s (i+1)=if i<s.nd then (iB s i*10+(dig s i-48))%18446744073709551616 else iB s i*10%18446744073709551616:=rfl
    rw[af q,b,Q,c]at l
    have J:IntKind.u64.wrap ((A:Int)*10)=(M:Int):=by rw[jD];omega
    have e2:IntKind.u64.wrap ((M:Int)+d)=(A':Int):=by rw[jD];omega
    have r:=Z c;have ad:i<=20:=by omega
    have p:i+1<=s.dp.toNat:=by omega
    rw[b];clear t cd Q b k hM c l;go_wp2
    go_round
    case measure=>(simp[intOf];try omega)
    case rel=>exact⟨i+1,p,by go_num,by rw[r.o]⟩
   ·have hx:¬((i:Int)<s.dp)\/((i:Int)<s.dp/\¬(i<s.nd)):=by omega
    have W:=Z hi;obtain⟨A0,v⟩:∃A0,iB s i=A0:=⟨_,rfl⟩
    have S:=Z v;rw[v];clear hd hi v;rcases hx with hx|⟨hx,ac⟩
    all_goals
     go_wp2_with fail
     go_loop [3,4] (fun f z=>∃i:Nat,i<=s.dp.toNat/\f=.int .i64 (i:Int)/\z=.int .u64 (iB s i:Nat)/\((i:Int)<s.dp->¬i<s.nd)) (fun f _=>30-(intOf f).toNat)
     case atStart=>exact⟨i,W.o,rfl,by rw[S.o],by first|exact fun _=>ac|(intro g;omega)⟩
     case round =>
      obtain⟨a,p,rfl,rfl,x⟩:=hrel;by_cases hd:(a:Int)<s.dp
      ·have q:=x hd;obtain⟨A,b⟩:∃A,iB s a=A:=⟨_,rfl⟩
       have k:=zX s a;obtain⟨A',c⟩:∃A',iB s (a+1)=A':=⟨_,rfl⟩
       have l:iB s (a+1)=if a<s.nd then (iB s a*10+(dig s a-48))%18446744073709551616 else iB s a*10%18446744073709551616:=rfl
       rw[ae q,b,c]at l
       have J:IntKind.u64.wrap ((A:Int)*10)=(A':Int):=by rw[jD];omega
       have r:=Z c;have ad:a<=20:=by omega
       have hi3:a+1<=s.dp.toNat:=by omega
       rw[b];clear b k c l x p;go_wp2
       go_round
       case measure=>(simp[intOf];try omega)
       case rel=>exact⟨a+1,hi3,by go_num,by rw[r.o],fun _=>by omega⟩
      ·have R:a=s.dp.toNat:=by omega
       have E:=Z R;obtain⟨A,b⟩:∃A,iB s a=A:=⟨_,rfl⟩
       have k:=zX s a;obtain⟨A1,N⟩:∃A1,(A+1)%18446744073709551616=A1:=⟨_,rfl⟩
       rw[b]at k
       have J:IntKind.u64.wrap ((A:Int)+1)=(A1:Int):=by rw[jD];omega
       have D:=Z b;have T:=Z N;rw[b];clear b k N R x p;go_wp2_with fail
       refine(aa.o _ C.o).mono ?_;rintro e w' ⟨rfl,rfl⟩;have P:=X.o;rw[P];clear P;cases up
       ·go_wp2
        go_ret;have hr:=m.o;simp only[fw,fy]at hr;rw[<-E.o,D.o]at hr
        exact⟨nS (by rw[hr]),rfl⟩
       ·go_wp2
        go_ret;have hr:=m.o;simp only[ed]at hr;rw[<-E.o,D.o,T.o]at hr
        exact⟨nS (by rw[hr]),rfl⟩
open Go.RowKit
def Exit.once (c:Code)(P:Program)(Q:Exit->Act->H->Prop):Exit->Act->H->Prop
 | .goto l,a,w=>∃rest,findLabel c l=some rest/\rest.wp P (Exit.noGoto Q) a w
 | e,a,w=>Q e a w
theorem xI {P:Program}{a:Act}{w:H}{Q:Exit->Act->H->Prop}{c:Code}(h:c.wp P (Exit.once c P Q) a w):(Code.scope c).wp P Q a w:=by
 intro b k cs;obtain⟨e,f,j,hq,d⟩:=h b (.inScope c :: k) cs;cases e with|normal=>exact⟨.normal,f,j,hq,.head ik (pi d (.one step_inScope))⟩|exit id=>exact⟨.exit id,f,j,hq,fun n m=>.head ik (d n (by simp[exitTo,m]))⟩|goto l=>{obtain⟨rest,hf,hr⟩:=hq;have i:gotoIn l (.inScope c :: k)=some (.code rest :: .inScope c :: k):=by{simp[gotoIn,hf]};obtain⟨o,a₂,w₂,hq₂,g⟩:=hr b (.inScope c :: k) cs;cases o with|normal=>exact⟨.normal,a₂,w₂,hq₂,pi (.head ik (d _ i)) (pi g (.one step_inScope))⟩|exit id=>exact⟨.exit id,a₂,w₂,hq₂,fun n m=>pi (.head ik (d _ i)) (g n (by simp[exitTo,m]))⟩|goto l=>exact hq₂.elim|ret=>exact⟨_,a₂,w₂,hq₂,lx (.head ik (d _ i)) g⟩|panic ch=>exact⟨_,a₂,w₂,hq₂,lx (.head ik (d _ i)) g⟩|outgrown=>exact⟨_,a₂,w₂,hq₂,lx (.head ik (d _ i)) g⟩}|ret=>exact⟨_,f,j,hq,lx (.one ik) d⟩|panic ch=>exact⟨_,f,j,hq,lx (.one ik) d⟩|outgrown=>exact⟨_,f,j,hq,lx (.one ik) d⟩
def pw (d:Nat):Nat:=if 9<=d then 27 else [1,3,6,9,13,16,19,23,26].getD d 0
theorem rD (d:Nat):1<=pw d/\pw d<=27:=by
 unfold pw;split;{omega};{have:∀d<9,1<=([1,3,6,9,13,16,19,23,26]:List Nat).getD d 0/\([1,3,6,9,13,16,19,23,26]:List Nat).getD d 0<=27:=by{decide};exact this d (by omega)}
theorem aKl (d:Nat)(h:d<9):(([1,3,6,9,13,16,19,23,26]:List Int).getD d 0)=(pw d:Int):=by
 have:∀d<9,(([1,3,6,9,13,16,19,23,26]:List Int).getD d 0)=(pw d:Int):=by{decide};exact this d h
def fR (s:Dec.Dc):Dec.Dc:=Dec.rsh (pw s.dp.toNat) s
def aBr:Nat->Dec.Dc->Prop
 | 0,s=>¬ 0<s.dp
 | r+1,s=>0<s.dp/\aBr r (fR s)
def eV:Nat->Dec.Dc->Int->Dec.Dc × Int
 | 0,s,e=>(s,e)
 | r+1,s,e=>eV r (fR s) (e+pw s.dp.toNat)
theorem aRg (μ : Nat):∀(s:Dec.Dc),Dec.Fine s->1<=s.nd->s.top<10->s.dp.toNat*10+s.top<=μ -> ∃r,r<=μ + 1/\aBr r s:=by
 induction μ using Nat.strongRecOn with|_ μ ih=>{intro s c e k f;by_cases h:0<s.dp;{obtain⟨b,j⟩:=rD s.dp.toNat;obtain⟨g,q2,q3,_,q5,i⟩:=Dec.rsh_fine (pw s.dp.toNat) s b (by omega) c e;have d:(fR s).dp.toNat*10+(fR s).top<s.dp.toNat*10+s.top:=by{unfold fR;by_cases a:(Dec.rsh (pw s.dp.toNat) s).dp=s.dp;{have:=q5 a;rw[a];omega};{have:(Dec.rsh (pw s.dp.toNat) s).dp.toNat+1<=s.dp.toNat:=by{omega};omega}};obtain⟨r,hr,a⟩:=ih _ (dj d f) (fR s) g q2 i (ah _);exact⟨r+1,by omega,h,a⟩};{exact⟨0,by omega,h⟩}}
def aA2 (s:Dec.Dc):Prop:=s.dp<0\/(s.dp=0/\dig s 0<53)
def gF (s:Dec.Dc):Dec.Dc:=Dec.lsh (pw (-s.dp).toNat) s
def aEg:Nat->Dec.Dc->Prop
 | 0,s=>¬aA2 s
 | r+1,s=>aA2 s/\aEg r (gF s)
def lC:Nat->Dec.Dc->Int->Dec.Dc × Int
 | 0,s,e=>(s,e)
 | r+1,s,e=>lC r (gF s) (e-pw (-s.dp).toNat)
theorem aRh (μ : Nat):∀(s:Dec.Dc),Dec.Fine s->1<=s.nd->s.top<10->(1-s.dp).toNat*10+(9-s.top)<=μ -> ∃r,r<=μ + 1/\aEg r s:=by
 induction μ using Nat.strongRecOn with|_ μ ih=>{intro s c e l f;by_cases h:aA2 s;{obtain⟨b,j⟩:=rD (-s.dp).toNat;obtain⟨g,q2,q3,_,q5,i⟩:=Dec.lsh_fine (pw (-s.dp).toNat) s b (by omega) c e;have k:s.dp<=0:=by{rcases h with h|h<;>omega};have d:(1-(gF s).dp).toNat*10+(9-(gF s).top)<(1-s.dp).toNat*10+(9-s.top):=by{unfold gF;by_cases a:(Dec.lsh (pw (-s.dp).toNat) s).dp=s.dp;{have:=q5 a;rw[a];omega};{omega}};obtain⟨r,hr,a⟩:=ih _ (dj d f) (gF s) g q2 i (ah _);exact⟨r+1,by omega,h,a⟩};{exact⟨0,by omega,h⟩}}
theorem aOa (r:Nat):∀(s:Dec.Dc) (e:Int),aBr r s->Dec.Fine s->1<=s.nd->s.top<10->-1000<=s.dp->s.dp<=400->0<=e ->
  Dec.Fine (eV r s e).1/\1<=(eV r s e).1.nd/\(eV r s e).1.top<10/\-1000<=(eV r s e).1.dp/\(eV r s e).1.dp<=0/\0<=(eV r s e).2/\(eV r s e).2<=e+27*r/\(eV r s e).1.neg=s.neg:=by
 induction r with|zero=>{intro s e a b c g d k f;exact⟨b,c,g,d,Int.not_lt.1 a,f,by show e<=e+27*0;omega,rfl⟩}|succ r ih=>{intro s e a b c g d k f;obtain⟨j,n⟩:=rD s.dp.toNat;obtain⟨l,q2,q3,q4,q5,m⟩:=Dec.rsh_fine (pw s.dp.toNat) s j (by omega) b c;have o:0<s.dp:=a.1;obtain⟨h,a2,a3,a4,a5,a6,a7,i⟩:=ih (fR s) (e+pw s.dp.toNat) a.2 l q2 m (by show -1000<=(Dec.rsh (pw s.dp.toNat) s).dp;omega) (by show(Dec.rsh (pw s.dp.toNat) s).dp<=400;omega) (by omega);exact⟨h,a2,a3,a4,a5,a6,by show(eV r (fR s) (e+pw s.dp.toNat)).2<=e+27*((r+1:Nat):Int);omega,i⟩}
def jZ (m x:Int)(neg:Bool):Int :=
 if neg then bits .or .u64 (bits .or .u64 (bits .and .u64 m 4503599627370495) (IntKind.u64.wrap (IntKind.u64.wrap (bits .and .i64 x 2047)*4503599627370496))) 9223372036854775808
 else bits .or .u64 (bits .and .u64 m 4503599627370495) (IntKind.u64.wrap (IntKind.u64.wrap (bits .and .i64 x 2047)*4503599627370496))
theorem uZ (m x:Int):bits .or .u64 (bits .or .u64 (bits .and .u64 m 4503599627370495) (IntKind.u64.wrap (IntKind.u64.wrap (bits .and .i64 x 2047)*4503599627370496))) 9223372036854775808=jZ m x true:=rfl
theorem uY (m x:Int):bits .or .u64 (bits .and .u64 m 4503599627370495) (IntKind.u64.wrap (IntKind.u64.wrap (bits .and .i64 x 2047)*4503599627370496))=jZ m x false:=rfl
theorem aKp {a b:Int}{c:Bool}(h:a=b):Ending.returned (.tuple #[.int .u64 a,.bool c])=.returned (.tuple #[.int .u64 b,.bool c]):=by rw[h]
theorem mT {r:Int × Bool}{a b:Int}{c:Bool}(d:r.1=b)(e:r.2=c)(h:a=b):Ending.returned (.tuple #[.int .u64 a,.bool c])=.returned (.tuple #[.int .u64 r.1,.bool r.2]):=by rw[d,e,h]
open Go.RowKit
def xJ (B:Nat)(r:Int × Bool)(w:H)(e:Ending)(w':H):Prop:=e=.returned (.tuple #[.int .u64 r.1,.bool r.2])/\aD (· = B) w w'
theorem aQf (B:Nat)(s:Dec.Dc)(w:H)(T:oC w B)(h:aC w B s)(d:1<=s.nd)(p1:310<s.dp) :
  Y 241 #[.pointer (some ⟨B,0,none⟩),.pointer (some ⟨8,0,none⟩)] w (xJ B (jZ 0 2047 s.neg,true) w):=by
 have b:=h.nd;have c:=h.dp;have a:=h.neg;have f:=T.info0;have g:=T.info1;have i:=T.info2;have e:((s.nd:Int)==0)=false:=ai.2 (by omega);clear h T;go_enter Tryz.func241,Tryz.ntmps241;go_wp2_with fail;apply xI;go_wp2_with fail;apply lq;refine⟨_,rfl,?_⟩;go_wp2_with fail;go_quiet (fail);go_wp2_with fail;go_step3;go_wp2_with fail;go_quiet (fail);cases hng:s.neg;{rw[hng]at a;go_wp2_with fail;rw[gc];go_ret2;exact⟨aKp (by show _=jZ 0 2047 s.neg;rw[hng];exact uY _ _),by first|exact(aD.refl _ w).drewN _|exact((aD.refl _ w).drewN _).drewN _|exact(((aD.refl _ w).drewN _).drewN _).drewN _⟩};{rw[hng]at a;go_wp2_with fail;go_quiet (fail);go_wp2_with fail;rw[gc];go_ret2;exact⟨aKp (by show _=jZ 0 2047 s.neg;rw[hng];exact uZ _ _),by first|exact(aD.refl _ w).drewN _|exact((aD.refl _ w).drewN _).drewN _|exact(((aD.refl _ w).drewN _).drewN _).drewN _⟩}
