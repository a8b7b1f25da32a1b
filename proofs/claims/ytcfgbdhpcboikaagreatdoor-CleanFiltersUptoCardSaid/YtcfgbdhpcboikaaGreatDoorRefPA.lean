/-
What came out of nodes, in a slice of the call's own (for the document's put and in).
-/
import Derived.Test.YtcfgbdhpcboikaaGreatDoorSieveD
namespace Go.Proofs.YtcfgbdhpcboikaaGreatDoor
set_option maxHeartbeats 4000000
set_option maxRecDepth 100000
open Go.RowKit
theorem tO {n:Nat}:n<=n:=ah n
structure Pv (B:Nat) (v:Value) (out:List Nd) (W1 w:H):Prop where
 row:∃xs,aF B 45 6 v out.length xs W1 w/\cS (fun g=>B<=g/\v.ownBlock≠some g) w xs out
theorem Pv.nil (w:H):Pv w.heap.size (.slice none 0 0) [] w w:=⟨[],aF.nil w 45 6,cS.nil _ _⟩
theorem Pv.keep {B:Nat}{v:Value}{out:List Nd}{b w w':H}(h:Pv B v out b w)(c:Below w.heap.size w w'):Pv B v out b w':=by
 obtain⟨i,e,d⟩:=h.row;exact⟨i,e.keep c,d.keep (fun g f hd=>⟨c.block g f,hd⟩)⟩
theorem Pv.bel {B:Nat}{v:Value}{out:List Nd}{b w:H}(h:Pv B v out b w):Below B b w:=by
 obtain⟨d,c,_⟩:=h.row;exact c.bel
theorem Pv.base {B:Nat}{v:Value}{out:List Nd}{b w:H}(h:Pv B v out b w):B<=w.heap.size:=by
 obtain⟨d,c,_⟩:=h.row;exact c.base
theorem Pv.hi {B:Nat}{v:Value}{out:List Nd}{b w:H}(h:Pv B v out b w):∀k,v.ownBlock=some k->k<w.heap.size:=by
 obtain⟨d,c,_⟩:=h.row;exact c.hi
theorem Pv.slice {B:Nat}{v:Value}{out:List Nd}{b w:H}(h:Pv B v out b w):∃a c,v=.slice a out.length c:=by
 obtain⟨f,d,_⟩:=h.row;obtain⟨a,c,e,_⟩:=d.slice;exact⟨a,c,e⟩
theorem cV.below {w w':H}(v:Value)(h:Below w.heap.size w w'):cV w w' v v:=⟨⟨h.os,h.tape,h.output,h.size,fun k b _=>h.block k b⟩,.inl rfl⟩
theorem cV.trans {w g h:H}{v v1 v2:Value}(b:cV w g v v1)(c:cV g h v1 v2):cV w h v v2:=by
 refine⟨⟨c.gr.os.trans b.gr.os,c.gr.tape.trans b.gr.tape,c.gr.output.trans b.gr.output,bg b.gr.size c.gr.size,fun k d f=>?_⟩,?_⟩;{rw[c.gr.block k (dj d b.gr.size) ?_,b.gr.block k d f];rcases b.loc with e|⟨q,e,hq⟩;{rw[e];exact f};{rw[e];intro i;have:=cy i;omega}};{rcases c.loc with e|⟨q,e,hq⟩;{rw[e];exact b.loc};{exact .inr ⟨q,e,bg b.gr.size hq⟩}}
theorem cV.stay {w w':H}{v v':Value}{g:Nat}(h:cV w w' v v')(d:g<w.heap.size)(c:v.ownBlock≠some g):w'.heap[g]?=w.heap[g]?/\v'.ownBlock≠some g:=by
 refine⟨h.gr.block g d (fun e=>c e.symm),fun e=>?_⟩;rcases h.loc with b|⟨k,b,f⟩;{exact c (b▸e)};{rw[b]at e;have:=cy e;omega}
theorem Pv.more {B:Nat}{b:List Nd}{x:Nd}{f w:H}{g c n:Nat}{h:List Value}(m:n=(b++[x]).length)(j:aF B 45 6 (.slice (some ⟨g,0,none⟩) n c) n h f w)
  (i:cS (fun k=>B<=k/\(Value.slice (some ⟨g,0,none⟩) n c).ownBlock≠some k) w h (b++[x])) (t:I) :
  Pv B (.slice (some ⟨g,0,none⟩) n c) (b++[x.more t]) f (w.setCell ⟨g,b.length*6+4,none⟩ (.string (x.text++t)))/\cV w (w.setCell ⟨g,b.length*6+4,none⟩ (.string (x.text++t))) (.slice (some ⟨g,0,none⟩) n c) (.slice (some ⟨g,0,none⟩) n c):=by
 have l:(b++[x.more t]).length=n:=by rw[m];simp
 refine⟨⟨_,?_,(i.more t).keep (fun k _ d=>⟨f8 w ⟨g,_,none⟩ k _ (fun e=>d.2 (by rw[e];rfl)),d⟩)⟩,⟨⟨rfl,rfl,rfl,by rw[oW];exact ah _,fun k _ d=>f8 w ⟨g,_,none⟩ k _ (fun e=>d (by rw[e];rfl))⟩,.inl rfl⟩⟩;rw[l];exact j.setCell _ _
theorem Pv.push {B:Nat}{v v':Value}{out:List Nd}{x:Nd}{b w w':H}{k:List Value}{c d e f h i:Value}(p:cS (fun g=>B<=g/\v.ownBlock≠some g) w k out)(hx:bR (fun g=>B<=g/\v.ownBlock≠some g) w x (.agg #[c,d,e,f,h,i]))
  (o:Obj) (r:aF B 45 6 v' (out.length+1) (k++[c,d,e,f,h,i]) b w') (q:cV (w.alloc o) w' v v'):Pv B v' (out++[x]) b w'/\cV w w' v v':=by
 have n:Below w.heap.size w (w.alloc o):=(am _ w).alloc tO _;have j:cV w w' v v':=(cV.below v n).trans q;refine⟨⟨_,r.cast (by simp) rfl,(p.snoc hx).keep (fun g s hd=>?_)⟩,j⟩;obtain⟨l,m⟩:=j.stay s hd.2;exact⟨l,hd.1,m⟩
def xP (B:Nat)(W1 w:H)(v:Value)(out':List Nd)(e:Ending)(w':H):Prop:=∃v',e=.returned v'/\Pv B v' out' W1 w'/\cV w w' v v'
def aEj (A:cW)(m:Nat):Prop:=∀(n:Nd),n.sz<=m->∀(nv:Value) (pn:I) (pv:Value) (ph:List I) (out:List Nd) (v:Value) (W1 w:H),G (aA W1)->G (SmN n) ->
 wtK out+4*n.tk<=100000000->ph.length+n.sz<=10000000->G (∀p∈ph,aN p.data.toList=4)->G (Pv W1.heap.size v out W1 w)->G (Phr W1 pv ph)->G (bJ W1 n nv) ->
 Y 106 #[v,.string pn,pv,nv] w (xP W1.heap.size W1 w v (eF A pn ph out n))
open Go.RowKit
theorem aF.empty {B:Nat}{b w:H}(e:TypeId)(size:Nat)(d:Below B b w)(c:B<=w.heap.size):aF B e size (.slice (some ⟨w.heap.size,0,none⟩) 0 0) 0 [] b (w.alloc (.cells #[] e)):=by
 refine⟨⟨by simp,.inr ⟨w.heap.size,0,#[],rfl,c,cc w _,ah _,bb _,by simp,by simp⟩⟩,d.alloc c _,by simp;omega⟩
theorem cV.refl (w:H)(v:Value):cV w w v v:=⟨⟨rfl,rfl,rfl,ah _,fun _ _ _=>rfl⟩,.inl rfl⟩
section
variable {P:Program} {w:H} {ops:Array Oper} {rest:List Oper} {o:Oper} {a:Act} {Q:Exit->Act->H->Prop}
theorem qR (D:o.guard=none)(s x:Operand)(t:TypeId)
  (J:o.op=.call { callee:=.builtin .append,args:=#[s,x],argTypes:=#[t,t] })
  (e:TypeId) (i:TypeInfo) (z:Value) (size f:Nat) (q:P.underlying t=some (.slice e)) (hi:P.info? e=some i) (hz:i.zero=some z)
  (ac:i.size=size) (W:i.bytes=f) (al:z.cells.size=size) (M:0<size)
  {B:Nat} {C:H} (v:Value) (n:Nat) (A:List Value) (L:a.eval s=v) (p:aF B e size v n A C w)
  (y:Option Addr) (m c:Nat) (b:List Value) (hx:a.eval x=.slice y m c) (E:b.length=m*size) (F:∀j u,b[j]?=some u->∃g d,y=some ⟨g,d,none⟩/\w.cell? ⟨g,d+j,none⟩=some u) (R:b.all (fun u=>u.oneCell')=true)
  (V:(n+m)*f<=140737488355328) (hn:n+m<=140737488355328)
  (h:∀v' w',G (aF B e size v' (n+m) (A++b) C w')->G (cV w w' v v')->wpList P ops Q rest (a.put o.dst v') w'):wpList P ops Q (o :: rest) a w:=by
 cases y with
 | some ad =>
  refine mN D s x t J e i z size f q hi hz ac W al M v n A L p ad m c b hx E (fun j u X=>?_) R V hn h;obtain⟨g,d,k,N⟩:=F j u X;cases k;have T:(⟨g,d,none⟩:Addr).add j=⟨g,d+j,none⟩:=by unfold Addr.add;split<;>simp_all
  rw[T];exact N
 | none =>
  have ab:b=[]:=by
   cases b with
   | nil=>rfl
   | cons u r =>
    obtain⟨g,d,k,_⟩:=F 0 u rfl;cases k
  subst ab;have hm:m=0:=by
   rcases gp m with l|l
   ·exact l
   ·have:=cf l M;simp at E;omega
  subst hm;have hr:(Builtin.append_ #[t,t] o.type #[v,.slice none 0 c]).run P w=.ok v w:=by
   rcases p.own.2 with⟨rfl,rfl⟩|⟨g,cap,an,rfl,ao,hg,aa,_⟩
   ·simp[Builtin.append_,run_underlying q,sizeOf,typeInfo,hi,Builtin.lenOf,Builtin.firstCells]
   ·simp[Builtin.append_,run_underlying q,sizeOf,typeInfo,hi,Builtin.lenOf,Builtin.firstCells,aa,storeCells]
  refine iq D fun K S=>?_
  unfold Oper.wp execOp;simp only[J,resolve,invoke,builtin,mu,mv,qr,qt,cg,fa,L,hx,hr];exact S _ _ (h v w (by rw[eh];exact Z p) (Z (cV.refl w v)))
end
open Go.RowKit
def kL (j:Nat):I:=⟨(cF.getD j []).toArray⟩
def aNy (w W:H)(b:Nat):Prop:=Below w.heap.size w W/\∀j,j<15->W.cell? ⟨b,j,none⟩=some (.string (kL j))
theorem aGn (w:H)(j:Nat)(h:j<15):(w.alloc (.cells (cF.map fun l=>Value.string ⟨l.toArray⟩).toArray 9)).cell? ⟨w.heap.size,j,none⟩=some (.string (kL j)):=by
 rw[au _ w.heap.size j _ 9 (0,0) (cc w _)];have:∀j<15,(cF.map fun l=>Value.string ⟨l.toArray⟩).toArray[j]?=some (Value.string (kL j)):=by{intro j b;have c:cF.length=15:=rfl;rw[kf,gk,bc (by omega)];unfold kL;simp[List.getD_eq_getElem?_getD,List.getElem?_eq_getElem (show j<cF.length by omega)]};exact this j h
theorem aJP (w:H):Y 68 #[] w fun e w'=>e=.returned (.slice (some ⟨w.heap.size,0,none⟩) 15 15)/\G (aNy w w' w.heap.size):=by
 go_enter Tryz.func68,Tryz.ntmps68;go_wp2;go_ret;exact⟨rfl,(am _ w).alloc tO _,fun j b=>aGn w j b⟩
theorem aRi (w:H):Y 70 #[.int .i64 0] w fun e w'=>e=.returned (.int .i64 0)/\w=w':=by
 go_enter Tryz.func70,Tryz.ntmps70;go_wp2;go_ret;exact⟨rfl,rfl⟩
theorem aRj (w:H):Y 70 #[.int .i64 1] w fun e w'=>e=.returned (.int .i64 0)/\w=w':=by
 go_enter Tryz.func70,Tryz.ntmps70;go_wp2;go_ret;exact⟨rfl,rfl⟩
theorem aRk (w:H):Y 70 #[.int .i64 2] w fun e w'=>e=.returned (.int .i64 765)/\w=w':=by
 go_enter Tryz.func70,Tryz.ntmps70;go_wp2;go_ret;exact⟨rfl,rfl⟩
theorem aRl (w:H):Y 70 #[.int .i64 3] w fun e w'=>e=.returned (.int .i64 49)/\w=w':=by
 go_enter Tryz.func70,Tryz.ntmps70;go_wp2;go_ret;exact⟨rfl,rfl⟩
theorem aRm (w:H):Y 70 #[.int .i64 4] w fun e w'=>e=.returned (.int .i64 49)/\w=w':=by
 go_enter Tryz.func70,Tryz.ntmps70;go_wp2;go_ret;exact⟨rfl,rfl⟩
theorem aRn (w:H):Y 70 #[.int .i64 5] w fun e w'=>e=.returned (.int .i64 0)/\w=w':=by
 go_enter Tryz.func70,Tryz.ntmps70;go_wp2;go_ret;exact⟨rfl,rfl⟩
theorem aRo (w:H):Y 70 #[.int .i64 6] w fun e w'=>e=.returned (.int .i64 0)/\w=w':=by
 go_enter Tryz.func70,Tryz.ntmps70;go_wp2;go_ret;exact⟨rfl,rfl⟩
theorem aRp (w:H):Y 70 #[.int .i64 7] w fun e w'=>e=.returned (.int .i64 256)/\w=w':=by
 go_enter Tryz.func70,Tryz.ntmps70;go_wp2;go_ret;exact⟨rfl,rfl⟩
theorem aRq (w:H):Y 70 #[.int .i64 8] w fun e w'=>e=.returned (.int .i64 765)/\w=w':=by
 go_enter Tryz.func70,Tryz.ntmps70;go_wp2;go_ret;exact⟨rfl,rfl⟩
theorem aRr (w:H):Y 70 #[.int .i64 9] w fun e w'=>e=.returned (.int .i64 3072)/\w=w':=by
 go_enter Tryz.func70,Tryz.ntmps70;go_wp2;go_ret;exact⟨rfl,rfl⟩
theorem aQi (w:H):Y 70 #[.int .i64 10] w fun e w'=>e=.returned (.int .i64 49)/\w=w':=by
 go_enter Tryz.func70,Tryz.ntmps70;go_wp2;go_ret;exact⟨rfl,rfl⟩
theorem aQj (w:H):Y 70 #[.int .i64 11] w fun e w'=>e=.returned (.int .i64 4096)/\w=w':=by
 go_enter Tryz.func70,Tryz.ntmps70;go_wp2;go_ret;exact⟨rfl,rfl⟩
theorem aQk (w:H):Y 70 #[.int .i64 12] w fun e w'=>e=.returned (.int .i64 8192)/\w=w':=by
 go_enter Tryz.func70,Tryz.ntmps70;go_wp2;go_ret;exact⟨rfl,rfl⟩
theorem aQl (w:H):Y 70 #[.int .i64 13] w fun e w'=>e=.returned (.int .i64 765)/\w=w':=by
 go_enter Tryz.func70,Tryz.ntmps70;go_wp2;go_ret;exact⟨rfl,rfl⟩
theorem aQm (w:H):Y 70 #[.int .i64 14] w fun e w'=>e=.returned (.int .i64 765)/\w=w':=by
 go_enter Tryz.func70,Tryz.ntmps70;go_wp2;go_ret;exact⟨rfl,rfl⟩
theorem aL5 (s:U)(k:Nat)(h:k<15):rB s (cF.drop k) k=if inB s (cF.getD k [])then k else rB s (cF.drop (k+1)) (k+1):=by
 have b:cF.length=15:=rfl;rw[dt (by omega)];have e:cF.getD k []=cF[k]'(by omega):=by{simp[List.getD_eq_getElem?_getD,List.getElem?_eq_getElem (show k<cF.length by omega)]};rw[e];conv=>lhs;unfold rB
theorem yG (k:Nat):(kL k).size<=1000000000:=by
 have h:∀k<15,(cF.getD k []).length<=1000:=by{decide +kernel};have e:(kL k).size=(cF.getD k []).length:=rfl;rw[e];rcases ak k 15 with b|b;{have:=h k b;omega};{have c:cF.length=15:=rfl;rw[ku,ew (by omega)];simp}
def aQ9 (s:I)(r k:Nat):Prop:=k<=15/\rB s.data.toList (cF.drop k) k=r
theorem aIb (s:I)(r:Nat)(hr:G (aN s.data.toList=r))(w:H):Y 25 #[.string s] w (O (.int .i64 (r:Nat)) w):=by
 go_enter Tryz.func25,Tryz.ntmps25;go_wp2_with fail;refine(aJP _).mono ?_;rintro e W ⟨rfl,d⟩;have q:G (w.heap.size=w.heap.size):=rfl;generalize w.heap.size=b at d;go_wp2;go_loop [2,4] (fun v i=>v=.int .i64 0/\∃k:Nat,i=.int .i64 k/\G (aQ9 s r k)) (fun _ i=>15-(intOf i).toNat);case atStart=>exact⟨rfl,0,rfl,⟨bb _,(aJO s.data.toList).trans hr.o⟩⟩
 case round =>
  obtain⟨rfl,k,rfl,j⟩:=hrel;rcases ak k 15 with f|f
  ·have p:=d.o.2 k f;have l:=aL5 s.data.toList k f;have c:=j.o.2;rw[l]at c
   cases hb:inB s.data.toList (cF.getD k [])with
   | true =>
    rw[hb,af rfl]at c
    have h:G (inB s.data.toList (kL k).data.toList=true):=hb;have g:=Z c;clear c l hb;go_wp2_with (go_at_call 69;refine(oI s (kL k) true h (yG k) _).mono ?_;rintro e w' ⟨rfl,rfl⟩)
    go_ret;refine⟨?_,d.o.1⟩;rw[<-g.o];rfl
   | false =>
    rw[hb,ae (by simp)]at c
    have h:G (inB s.data.toList (kL k).data.toList=false):=hb;have g:=Z c;clear c l hb;go_wp2_with (go_at_call 69;refine(oI s (kL k) false h (yG k) _).mono ?_;rintro e w' ⟨rfl,rfl⟩)
    go_round
    case rel=>exact⟨rfl,k+1,by go_num,⟨f,g.o⟩⟩
    case measure=>simp[intOf];omega
  {have m:r=0:=by{have c:=j.o.2;have:k=15:=by{have:=j.o.1;omega};subst this;rw[<-c];rfl};have n:=Z m;clear m;go_wp2;go_ret;refine⟨?_,d.o.1⟩;rw[n.o];rfl}
theorem iV (s:I)(w:H):Y 25 #[.string s] w (O (.int .i64 (aN s.data.toList:Nat)) w):=aIb s _ (Z rfl) w
open Go.RowKit
theorem aF.phr {B:Nat}{v:Value}{ph:List I}{b w:H}(h:aF B 9 1 v ph.length (ph.map nM) b w):Phr w v ph:=by
 obtain⟨a,c,e,d,_⟩:=h.slice;exact⟨h.vec,⟨a,c,e,d⟩⟩
theorem aM2 (ph:List I):(ph.map nM).all (fun u=>u.oneCell')=true:=by
 rw[da];intro u b;obtain⟨x,_,rfl⟩:=g9.1 b;rfl
theorem aDp (A:cW)(m:Nat)(HA:G (aEj A m))(l:List Nd)(hm:aB l<=m)(pn:I)(pv:Value)(ph:List I)(w:H)(a:Option Addr)(c:Nat)(HT:G (aA w))(HS:G (SmK l))(hb:4*dH l<=100000000)
  (cb:ph.length+1+aB l<=10000000) (aw:G (∀p∈ph,aN p.data.toList=4)) (C:G (Phr w pv ph)) (hK:G (aQ w a 0 l)) :
  Y 102 #[.string pn,pv,.slice a l.length c] w (fV w (bB A pn ph l)):=by
 obtain⟨i9,ao,a7,a3,al⟩:=cx Tryz.info9';obtain⟨pa,pc,rfl,co⟩:=C.o.cap;have aa:=fun W=>iV pn W;have ck:=lD pn.data.toList;have hF:bB A pn ph l=if aN pn.data.toList=5\/aN pn.data.toList=6 then []else aY A pn (if aN pn.data.toList=4 then ph++[pn]else ph) [] l:=rfl
 have av:aN pn.data.toList=4->∀p∈ph++[pn],aN p.data.toList=4:=fun h p n=>by{rcases cu.1 n with n|n;{exact aw.o p n};{rw[fh.1 n];exact h}};generalize bB A pn ph l=R at *;have J:=Z hF;clear hF;generalize aN pn.data.toList=K at *;have L:=Z aa;have a9:=Z av;have cm:l.length<=10000000:=by{have:=(iT l).2;omega};have T:=Z hb;have HM:=Z hm;have bj:=Z cb;clear hb hm aa av;have cp:ph.length<=10000000:=by{omega};generalize hlen:l.length=ll at *;have M:=Z hlen;clear hlen;go_enter Tryz.func102,Tryz.ntmps102;go_wp2_with fail;refine(L.o _).mono ?_;rintro e W1 ⟨rfl,F⟩;have b:=Z F;clear F L;by_cases t:K=5\/K=6
 ·have s:G (R=[]):=by{show _=_;rw[J.o,af t]};have a1:fV w R (.returned (.slice none 0 0)) W1:=by{rw[s.o];exact⟨none,0,rfl,by simp,by unfold dD;trivial,b.o⟩};have z:=Z a1;clear a1;rcases t with rfl|rfl
  all_goals
   go_wp2
   go_ret;exact z.o
 ·have e5:((K:Int)==5)=false:=by{rw[ai];omega};have e6:((K:Int)==6)=false:=by{rw[ai];omega};have s:G (R=aY A pn (if K=4 then ph++[pn]else ph) [] l):=by{show _=_;rw[J.o,ae t]};clear t;go_upto_if 19 with fail;go_cut [1] (fun p2 wx=>G (Phr wx p2 (if K=4 then ph++[pn]else ph))/\G (Below w.heap.size w wx))
  case first =>
   by_cases f:K=4
   ·have e1:((K:Int)==4)=true:=by{rw[cn];omega};have x:=Z f;have bf:G (aF w.heap.size 9 1 (.slice (some ⟨W1.heap.size,0,none⟩) 0 0) 0 [] w (W1.alloc (.cells #[] 9))):=aF.empty 9 1 b.o b.o.size;have bk:=Z (C.o.below (b.o.trans (((am W1.heap.size W1).alloc tO (.cells #[] 9)).mono b.o.size)) tO);clear f e5 e6
    go_wp2_with (at_builtin;refine qR rfl _ _ 55 rfl 9 i9 (.string ⟨#[]⟩) 1 16 Tryz.underlying55 ao a7 a3 al rfl (by decide) _ 0 [] rfl bf.o pa ph.length pc (ph.map nM) rfl (by simp) (fun j u hj=>by
     obtain⟨a',c',V,h'⟩:=bk.o.vec;simp only[ce,fk]at V;rw[V.1];exact h' j u hj) (aM2 ph) (by omega) (by omega) ?_)
    intro v2 W2 ab bx;clear bx;go_wp2_with (at_builtin;refine aU (by rfl) _ _ 55 (by rfl) 9 i9 (.string ⟨#[]⟩) 1 16 Tryz.underlying55 ao a7 a3 al rfl (by decide) _ _ _ rfl ab.o #[.string pn] rfl rfl rfl rfl (by omega) (by omega) ?_);intro v3 W3 ac b0;clear b0;have N:G (aF w.heap.size 9 1 v3 (ph++[pn]).length ((ph++[pn]).map nM) w W3):=ac.o.cast (by simp) (by simp[nM]);clear ab ac;go_wp2_with fail;go_meet;case rel =>refine⟨?_,Z N.o.bel⟩;rw[af x.o];exact Z N.o.phr
   {have e1:((K:Int)==4)=false:=by{rw[ai];omega};have x:=Z f;clear f;go_wp2_with fail;go_meet;case rel =>refine⟨?_,b⟩;rw[ae x.o];exact Z (C.o.below b.o tO)}
  case rest =>obtain⟨S,r⟩:=hcut;have be:G (∀p∈(if K=4 then ph++[pn]else ph),aN p.data.toList=4):=by{show ∀p∈_,_;split;{rename_i h;exact a9.o h};{exact aw.o}};have bl:G ((if K=4 then ph++[pn]else ph).length+aB l<=10000000):=by{show _<=_;have B:=bj.o;split;{rw[ax,jx];omega};{omega}};generalize (if K=4 then ph++[pn]else ph)=ph2 at *;obtain⟨cd,ci,rfl,_⟩:=S.o.cap;have bq:=Z (HT.o.below r.o tO);have bd:=Z (hK.o.below r.o tO);have z:=Z (show Pv wc.heap.size (.slice none 0 0) (aY A pn ph2 [] (l.take 0)) wc wc by rw[mf,iQ];exact Pv.nil wc);go_wp2_with fail;go_loopw [8,9] (fun o i wx=>∃k:Nat,i=.int .i64 k/\k<=ll/\G (Pv wc.heap.size o (aY A pn ph2 [] (l.take k)) wc wx)) (fun _ i _=>ll-(intOf i).toNat);(case atStart=>exact⟨0,rfl,bb _,z⟩);case round =>obtain⟨k,rfl,f,D⟩:=hrel;rcases ak k ll with ca|b4;{have d:k<l.length:=by{rw[M.o];exact ca};obtain⟨g,off,c0,c1,c2,c3,c4,c5,rfl,h6,E⟩:=bd.o.get l 0 k d;rw[bw]at h6;obtain⟨x0,x1,x2,x3,x4,x5⟩:=h6.below D.o.bel tO;obtain⟨cj,b1,a2,b2,rfl,rfl,rfl,rfl,rfl,rfl⟩:=E.cells;have a0:l[k].sz<=m:=bg (zL l k d) HM.o;have a5:wtK (aY A pn ph2 [] (l.take k))+4*(l[k]).tk<=100000000:=by{have B:=(nN A).2 (l.take k) pn ph2 [];have X:=aF1 l k d;have h3:=T.o;have h4:wtK []=0:=rfl;omega};have a6:ph2.length+(l[k]).sz<=10000000:=by{have B:=zL l k d;have X:=bl.o;omega};have a4:=SmK.get l k d HS.o;have v:=Z (HA.o l[k] a0 _ pn (.slice cd ph2.length ci) ph2 (aY A pn ph2 [] (l.take k)) u8 wc wr bq (Z a4) a5 a6 be D S (Z E));rw[<-uN A pn ph2 [] l k d]at v;clear E h6 a0 a5 a6 a4;generalize l[k]=q at *;go_wp2_with fail;refine v.o.mono ?_;unfold xP;rintro e W4 ⟨v4,rfl,hP4,b3⟩;have bh:=Z hP4;clear hP4 b3 v;go_wp2;go_roundw;(case rel=>exact⟨k+1,by go_num,by omega,bh⟩);case measure=>simp[intOf];omega};{have an:fV w R (.returned u8) wr:=by{have ad:=D.o;rw[fi (by rw[M.o];exact b4),<-s.o]at ad;obtain⟨xs,hO,hC⟩:=ad.row;obtain⟨bs,c3,rfl,_,b5⟩:=hO.slice;have hs:=r.o.size;refine⟨bs,c3,rfl,?_,pE hO.vec hC (fun g hg=>by omega) (fun y hy=>⟨by have:=(b5 y hy).1;omega,hO.unf y hy⟩),r.o.trans (hO.bel.mono hs)⟩;rw[s.o];have B:=(nN A).2 l pn ph2 [];have X:=(kP (aY A pn ph2 [] l)).1;have h3:=T.o;have h4:wtK []=0:=rfl;omega};have a8:=Z an;clear an;go_wp2;go_ret;exact a8.o}
open Go.RowKit
def iE (s:I)(n:Int):Prop:=∀w,Y 25 #[.string s] w (O (.int .i64 n) w)
def aBu (n h:Int):Prop:=∀w,Y 70 #[.int .i64 n] w fun e w'=>e=.returned (.int .i64 h)/\w=w'
theorem aJF (p:Nat)(b:p<=14):aBu (p:Nat) (sM p:Nat):=by
 have h:p=0\/p=1\/p=2\/p=3\/p=4\/p=5\/p=6\/p=7\/p=8\/p=9\/p=10\/p=11\/p=12\/p=13\/p=14:=by{omega};rcases h with rfl|rfl|rfl|rfl|rfl|rfl|rfl|rfl|rfl|rfl|rfl|rfl|rfl|rfl|rfl;{exact aRi};{exact aRj};{exact aRk};{exact aRl};{exact aRm};{exact aRn};{exact aRo};{exact aRp};{exact aRq};{exact aRr};{exact aQi};{exact aQj};{exact aQk};{exact aQl};{exact aQm}
theorem aMC (p k:I)(d:G (iE k 0))(w:H) :
  Y 27 #[.string p,.string k] w (O (.bool false) w):=by
 go_enter Tryz.func27,Tryz.ntmps27;go_wp2_with fail;refine(d.o _).mono ?_;rintro e f ⟨rfl,b⟩;have c:=Z b;clear b;go_wp2;go_ret;exact⟨rfl,c.o⟩
theorem aKn (p k:I)(P h:Int)(K:Int)(l:0<K)(m:K<=14)(_hh0:0<=h)(_hh1:h<=100000)(j:G (iE p P))(i:G (iE k K))(g:G (aBu P h))
  (n:(bits BinOp.and IntKind.i64 (h / 2^K.toNat) 1==1)=false) (w:H) :
  Y 27 #[.string p,.string k] w (O (.bool false) w):=by
 go_enter Tryz.func27,Tryz.ntmps27;go_wp2_with fail;refine(i.o _).mono ?_;rintro e q ⟨rfl,b⟩;have d:=Z b;clear b;go_wp2_with fail;refine(j.o _).mono ?_;rintro e r ⟨rfl,c⟩;have f:=Z (d.o.trans (c.mono d.o.size));clear c;go_wp2_with fail;refine(g.o _).mono ?_;rintro e w' ⟨rfl,rfl⟩;go_wp2;go_ret;exact⟨rfl,f.o⟩
theorem aId (p k:I)(P h:Int)(K:Int)(l:0<K)(m:K<=14)(_hh0:0<=h)(_hh1:h<=100000)(j:G (iE p P))(i:G (iE k K))(g:G (aBu P h))
  (q:(bits BinOp.and IntKind.i64 (h / 2^K.toNat) 1==1)=true) (n:(K==4)=false) (w:H) :
  Y 27 #[.string p,.string k] w (O (.bool true) w):=by
 go_enter Tryz.func27,Tryz.ntmps27;go_wp2_with fail;refine(i.o _).mono ?_;rintro e r ⟨rfl,b⟩;have d:=Z b;clear b;go_wp2_with fail;refine(j.o _).mono ?_;rintro e s ⟨rfl,c⟩;have f:=Z (d.o.trans (c.mono d.o.size));clear c;go_wp2_with fail;refine(g.o _).mono ?_;rintro e w' ⟨rfl,rfl⟩;go_wp2;go_ret;exact⟨rfl,f.o⟩
theorem aMD (p k:I)(P h:Int)(b:Bool)(_hh0:0<=h)(_hh1:h<=100000)(l:G (iE p P))(j:G (iE k 4))(i:G (aBu P h))
  (n:(bits BinOp.and IntKind.i64 (h / 16) 1==1)=true) (m:(p.toList==k.toList)=b) (w:H) :
  Y 27 #[.string p,.string k] w (O (.bool (!b)) w):=by
 go_enter Tryz.func27,Tryz.ntmps27;go_wp2_with fail;refine(j.o _).mono ?_;rintro e q ⟨rfl,c⟩;have f:=Z c;clear c;go_wp2_with fail;refine(l.o _).mono ?_;rintro e r ⟨rfl,d⟩;have g:=Z (f.o.trans (d.mono f.o.size));clear d;go_wp2_with fail;refine(i.o _).mono ?_;rintro e w' ⟨rfl,rfl⟩;go_wp2
 all_goals
  go_ret;refine⟨?_,g.o⟩;rfl
theorem aEK:∀p<15,∀k<15,(bits BinOp.and IntKind.i64 (((sM p:Nat):Int) / 2^((k:Nat):Int).toNat) 1==1)=decide (sM p / 2^k%2=1):=by decide +kernel
theorem aJG:∀p<15,sM p<=100000:=by decide +kernel
theorem aIc (p k:I)(w:H):Y 27 #[.string p,.string k] w (O (.bool (wF p.data.toList k.data.toList)) w):=by
 have d:iE p (aN p.data.toList:Nat):=fun w=>iV p w;have c:iE k (aN k.data.toList:Nat):=fun w=>iV k w;have n:=lD k.data.toList;have j:=lD p.data.toList;have i:(k.data.toList==p.data.toList)=(p.toList==k.toList):=by{rw[toList_data,toList_data,ay];simp only[cn];exact⟨fun e=>e.symm,fun e=>e.symm⟩};have g:(p.toList==k.toList)=true->aN p.data.toList=aN k.data.toList:=by{intro h;rw[<-i]at h;rw[cn.1 h]};unfold wF;rw[i];generalize aN k.data.toList=K at c n g;generalize aN p.data.toList=P at d j g;rw[<-aMj P (by omega) K (by omega) _ g];have b:=aEK P (by omega) K (by omega);have f:=aJF P j;have q:=aJG P (by omega);by_cases m:K=0;{subst m;exact aMC p k (Z c) w}
 ·have l:decide (0<K)=true:=by simp;omega
  rw[l,jn];cases ht:decide (sM P / 2^K%2=1)with
  | false =>
   rw[ht]at b
   rw[lf];exact aKn p k P (sM P) K (by omega) (by omega) (by omega) (by omega) (Z d) (Z c) (Z f) b w
  | true =>
   rw[ht]at b
   rw[jn];by_cases k4:K=4
   ·subst k4;have e4:decide (4=4)=true:=rfl;rw[e4,jn];exact aMD p k P (sM P) _ (by omega) (by omega) (Z d) (Z c) (Z f) b rfl w
   ·have e4:decide (K=4)=false:=by simp[k4]
    rw[e4,lf];exact aId p k P (sM P) K (by omega) (by omega) (by omega) (by omega) (Z d) (Z c) (Z f) b (by rw[ai];omega) w
theorem aGx (p:I)(P h:Int)(b:Bool)(_hh0:0<=h)(_hh1:h<=100000)(g:G (iE p P))(f:G (aBu P h))
  (i:(bits BinOp.and IntKind.i64 h 1==1)=b) (w:H) :
  Y 29 #[.string p] w (O (.bool b) w):=by
 go_enter Tryz.func29,Tryz.ntmps29;go_wp2_with fail;refine(g.o _).mono ?_;rintro e j ⟨rfl,c⟩;have d:=Z c;clear c;go_wp2_with fail;refine(f.o _).mono ?_;rintro e w' ⟨rfl,rfl⟩;go_wp2
 all_goals
  go_ret;refine⟨?_,d.o⟩;rfl
theorem aFH (p:I)(w:H):Y 29 #[.string p] w (O (.bool (mX p.data.toList)) w):=by
 have b:iE p (aN p.data.toList:Nat):=fun w=>iV p w;have c:=lD p.data.toList;unfold mX;generalize aN p.data.toList=P at b c;rw[<-aIw P (by omega)];have d:=aEK P (by omega) 0 (by omega);have e:=aJG P (by omega);refine aGx p P (sM P) _ (by omega) (by omega) (Z b) (Z (aJF P c)) ?_ w;simpa using d
