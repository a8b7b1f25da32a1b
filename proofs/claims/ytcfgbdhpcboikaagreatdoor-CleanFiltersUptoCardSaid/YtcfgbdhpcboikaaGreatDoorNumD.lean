/-
real.numeral: the walk's two ways (with a point, without one).
-/
import Derived.Test.YtcfgbdhpcboikaaGreatDoorNum
import Derived.LaidMore
import Derived.OpenShut
import Derived.ProofKit
import Derived.Deep.Strs
import Derived.Stop.LaidErr
import Derived.Test.YtcfgbdhpcboikaaGreatDoorTie
import Derived.Lay
import Derived.Lib.LaidU8T
import Derived.Test.YtcfgbdhpcboikaaGreatDoorRefUC
namespace Go.Proofs.YtcfgbdhpcboikaaGreatDoor
set_option maxHeartbeats 16000000
set_option maxRecDepth 100000
open Go.RowKit
theorem aAg {n:Nat}:n<=n:=ah n
theorem aFs (s s1 a:I)(n:Nat)(v:Bool)(w:H)(C:s.size<=40)(D:s1.size<=40)(E:a.size<=s1.size)
  (r:∀w,Y 117 #[.string s,.string { data:=#[45] }] w fun e w'=>e=.returned (.string s1)/\w=w')
  (m:∀w,Y 112 #[.string s1] w fun e w'=>e=.returned (.int .i64 n)/\w=w')
  (B:∀w,(Instr.slice 9 (.string s1) (some (.int .i64 n)) none none).run Tryz.prog w=.ok (.string a) w)
  (p:∀w,Y 118 #[.string a,.string { data:=#[46] }] w fun e w'=>e=.returned (.bool false)/\w=w')
  (_hns:n<=s1.size) (i:xN a n v) :
  Y 65 #[.string s] w fun e w'=>e=.returned (.bool v)/\w=w':=by
 have y:=Z r;have u:=Z m;have x:=Z p;clear r m p;cases i
 case' zero h=>have A:(((n:Int))==0)=true:=by simp;omega
 case' done h h1=>have k:=jH a h1;clear h1
 case' other h h1 h2 h3=>have k:=dN a h1
 case' small h h1 h2 s4 z4 c4 i=>have k:=dN a h1
 case' large h h1 h2 h3 s4 z4 c4 i=>have k:=dN a h1
 all_goals try have A:(((n:Int))==0)=false:=by simp;omega
 all_goals try clear h
 all_goals try rcases i with b|⟨b,g,t,d,hd⟩|⟨b,g,c,l,j,f⟩|⟨b,g,c,l,j,f,d,hd⟩|⟨b,g,t,c,l,j,f⟩|⟨b,g,t,c,l,j,f,d,hd⟩
 all_goals try have z:=dN s4 b
 all_goals try have z:=jH s4 b
 all_goals try have e3:=dN c f
 all_goals try have e3:=jH c f
 all_goals try have q:=Z (fun w=>jN s4 d w (by unfold maxLen;omega) hd)
 all_goals try have q:=Z (fun w=>jN c d w (by unfold maxLen;omega) hd)
 all_goals try clear hd
 all_goals
  go_enter Tryz.func65,Tryz.ntmps65
  go_wp2_with (first
   | (go_at_call 117;refine(y.o _).mono ?_;rintro e w' ⟨rfl,rfl⟩)
   | (go_at_call 118;refine(x.o _).mono ?_;rintro e w' ⟨rfl,rfl⟩)
   | (go_at_call 112;((with_reducible refine(u.o _).mono ?_);rintro e w' ⟨rfl,rfl⟩))
   | (go_at_call 112;((with_reducible refine(q.o _).mono ?_);rintro e w' ⟨rfl,rfl⟩)))
  go_ret;exact⟨rfl,rfl⟩
theorem aGt (s s1 g z b:I)(n k:Nat)(v:Bool)(w:H)(M:s.size<=40)(R:s1.size<=40)(_hz2:g.size<=s1.size)(S:b.size<=s1.size)
  (x:∀w,Y 117 #[.string s,.string { data:=#[45] }] w fun e w'=>e=.returned (.string s1)/\w=w')
  (q:∀w,Y 112 #[.string s1] w fun e w'=>e=.returned (.int .i64 n)/\w=w')
  (J:∀w,(Instr.slice 9 (.string s1) (some (.int .i64 n)) none none).run Tryz.prog w=.ok (.string g) w)
  (t:∀w,Y 118 #[.string g,.string { data:=#[46] }] w fun e w'=>e=.returned (.bool true)/\w=w')
  (K:∀w,(Instr.slice 9 (.string g) (some (.int .i64 1)) none none).run Tryz.prog w=.ok (.string z) w)
  (r:∀w,Y 112 #[.string z] w fun e w'=>e=.returned (.int .i64 k)/\w=w')
  (N:((k:Int)==0)=false)
  (L:∀w,(Instr.slice 9 (.string g) (some (.int .i64 (1+(k:Int)))) none none).run Tryz.prog w=.ok (.string b) w)
  (_hns:n<=s1.size) (Q:n+k<=s1.size) (j:xN b (n+k) v) :
  Y 65 #[.string s] w fun e w'=>e=.returned (.bool v)/\w=w':=by
 have D:=Z x;have A:=Z q;have B:=Z r;have C:=Z t;clear x q t r;cases j
 case' zero h=>have F:(((n:Int)+(k:Int))==0)=true:=by simp;omega
 case' done h h1=>have m:=jH b h1;clear h1
 case' other h h1 h2 h3=>have m:=dN b h1
 case' small h h1 h2 s4 z4 c4 j=>have m:=dN b h1
 case' large h h1 h2 h3 s4 z4 c4 j=>have m:=dN b h1
 all_goals try have F:(((n:Int)+(k:Int))==0)=false:=by simp;omega
 all_goals try clear h
 all_goals try rcases j with a|⟨a,i,y,d,hd⟩|⟨a,i,c,p,l,f⟩|⟨a,i,c,p,l,f,d,hd⟩|⟨a,i,y,c,p,l,f⟩|⟨a,i,y,c,p,l,f,d,hd⟩
 all_goals try have E:=dN s4 a
 all_goals try have E:=jH s4 a
 all_goals try have e3:=dN c f
 all_goals try have e3:=jH c f
 all_goals try have u:=Z (fun w=>jN s4 d w (by unfold maxLen;omega) hd)
 all_goals try have u:=Z (fun w=>jN c d w (by unfold maxLen;omega) hd)
 all_goals try clear hd
 all_goals
  go_enter Tryz.func65,Tryz.ntmps65
  go_wp2_with (first
   | (go_at_call 117;refine(D.o _).mono ?_;rintro e w' ⟨rfl,rfl⟩)
   | (go_at_call 118;refine(C.o _).mono ?_;rintro e w' ⟨rfl,rfl⟩)
   | (go_at_call 112;((with_reducible refine(A.o _).mono ?_);rintro e w' ⟨rfl,rfl⟩))
   | (go_at_call 112;((with_reducible refine(B.o _).mono ?_);rintro e w' ⟨rfl,rfl⟩))
   | (go_at_call 112;((with_reducible refine(u.o _).mono ?_);rintro e w' ⟨rfl,rfl⟩)))
  go_ret;exact⟨rfl,rfl⟩
theorem aD3 (s s1 a g:I)(n:Nat)(w:H)(p:s.size<=40)(_hz1:s1.size<=40)
  (f:∀w,Y 117 #[.string s,.string { data:=#[45] }] w fun e w'=>e=.returned (.string s1)/\w=w')
  (b:∀w,Y 112 #[.string s1] w fun e w'=>e=.returned (.int .i64 n)/\w=w')
  (l:∀w,(Instr.slice 9 (.string s1) (some (.int .i64 n)) none none).run Tryz.prog w=.ok (.string a) w)
  (d:∀w,Y 118 #[.string a,.string { data:=#[46] }] w fun e w'=>e=.returned (.bool true)/\w=w')
  (m:∀w,(Instr.slice 9 (.string a) (some (.int .i64 1)) none none).run Tryz.prog w=.ok (.string g) w)
  (c:∀w,Y 112 #[.string g] w fun e w'=>e=.returned (.int .i64 (0:Nat))/\w=w') :
  Y 65 #[.string s] w fun e w'=>e=.returned (.bool false)/\w=w':=by
 have k:=Z f;have h:=Z b;have i:=Z c;have j:=Z d;clear f b d c;go_enter Tryz.func65,Tryz.ntmps65
 go_wp2_with (first
  | (go_at_call 117;refine(k.o _).mono ?_;rintro e w' ⟨rfl,rfl⟩)
  | (go_at_call 118;refine(j.o _).mono ?_;rintro e w' ⟨rfl,rfl⟩)
  | (go_at_call 112;((with_reducible refine(h.o _).mono ?_);rintro e w' ⟨rfl,rfl⟩))
  | (go_at_call 112;((with_reducible refine(i.o _).mono ?_);rintro e w' ⟨rfl,rfl⟩)))
 go_ret;exact⟨rfl,rfl⟩
theorem pS (s:I)(w:H)(A:s.size<=maxLen) :
  Y 65 #[.string s] w fun e w'=>e=.returned (.bool (cH s.data.toList))/\w=w':=by
 by_cases x:40<s.size
 ·exact aFt s w A x
 ·obtain⟨s1,p⟩:∃s1:I,s1.data.toList=if s.data.toList.head?=some 45 then s.data.toList.drop 1 else s.data.toList:=⟨⟨(if s.data.toList.head?=some 45 then s.data.toList.drop 1 else s.data.toList).toArray⟩,rfl⟩
  have q:s1.size<=40:=by
   rw[aS,p];rw[aS]at x
   split
   ·rw[bm];omega
   ·omega
  have b:cH s.data.toList=sP s1.data.toList:=by
   unfold cH;rw[ae (by rw[<-aS];omega),p]
  rw[b];have i:=fun w=>aPs s s1 w p
  obtain⟨n,f⟩:=ex (digs s1.data.toList)
  have o:n<=s1.size:=by rw[f,aS];exact jG _
  have g:=fun w=>jN s1 n w (by unfold maxLen;omega) f.symm
  obtain⟨a,v,D,j⟩:=fT s1 n o;by_cases hd:a.data.toList.head?=some 46
  ·obtain⟨B,_⟩:=yF a 46 hd;have d:=fun w=>aJk a true w (by simp[hd])
   obtain⟨c,y,E,t⟩:=fT a 1 B;obtain⟨k,l⟩:=ex (digs c.data.toList)
   have C:k<=c.size:=by rw[l,aS];exact jG _
   have h:=fun w=>jN c k w (by unfold maxLen;omega) l.symm
   obtain⟨r,z,F,u⟩:=fT a (1+k) (by omega);have b:sP s1.data.toList=if k=0 then false else jY (n+k) r.data.toList:=by
    unfold sP;rw[<-f,<-v,af hd,<-y,<-l,<-z]
   rw[b];by_cases m:k=0
   ·rw[af m];rw[m]at h
    exact aD3 s s1 a c n w (by omega) q i g j d t h
   ·rw[ae m];have e:((1+k:Nat):Int)=1+(k:Int):=by omega
    rw[e]at u
    exact aGt s s1 a c r n k _ w (by omega) q (by omega) (by omega) i g j d t h (by simp;omega) u o (by omega) (aB6 r (n+k) (by omega) (by omega))
  ·have d:=fun w=>aJk a false w (by simp[hd])
   have b:sP s1.data.toList=jY n a.data.toList:=by
    unfold sP;rw[<-f,<-v,ae hd]
   rw[b];exact aFs s s1 a n _ w (by omega) q (by omega) i g j d o (aB6 a n (by omega) (by omega))
open Go.RowKit
def aJ (i:Nat):Nat:=(Pinned.pow10Rows.getD i (0,0)).1
def aR (i:Nat):Nat:=(Pinned.pow10Rows.getD i (0,0)).2
def gC:List Nat:=[4607182418800017408,4621819117588971520,4636737291354636288,4652007308841189376,4666723172467343360,4681608360884174848,4696837146684686336,4711630319722168320,4726483295884279808,4741671816366391296,4756540486875873280,4771362005757984768,4786511204640096256,4801453603149578240,4816244402031689728,4831355200913801216,4846369599423283200,4861130398305394688,4876203697187506176,4891288408196988160,4906019910204099648,4921056587992461136,4936209963552724370]
def aCc:List Int:=[1,3,6,9,13,16,19,23,26]
structure aA (w:H):Prop where
 opt:w.cell? ⟨7,0,none⟩=some (.bool true)
 most:∃m,w.cell? ⟨1,0,none⟩=some (.int .i64 m)
 syn:∃t v,w.cell? ⟨2,0,none⟩=some (.iface t v)
 rng:∃t v,w.cell? ⟨3,0,none⟩=some (.iface t v)
 info0:w.cell? ⟨8,0,none⟩=some (.int .u64 52)
 info1:w.cell? ⟨8,1,none⟩=some (.int .u64 11)
 info2:w.cell? ⟨8,2,none⟩=some (.int .i64 (-1023))
 f10:∃b o,w.cell? ⟨12,0,none⟩=some (.slice (some ⟨b,o,none⟩) 23 23)/\∀i,i<23->w.cell? ⟨b,o+i,none⟩=some (.float .f64 (gC.getD i 0))
 p2:∃b o,w.cell? ⟨11,0,none⟩=some (.slice (some ⟨b,o,none⟩) 9 9)/\∀i,i<9->w.cell? ⟨b,o+i,none⟩=some (.int .i64 (aCc.getD i 0))
 p10:∀i,i<696->w.cell? ⟨13,2*i,none⟩=some (.int .u64 (aJ i))/\w.cell? ⟨13,2*i+1,none⟩=some (.int .u64 (aR i))
 cheats:∃b o,w.cell? ⟨14,0,none⟩=some (.slice (some ⟨b,o,none⟩) 61 61)/\∀i,i<61->w.cell? ⟨b,o+2*i,none⟩=some (.int .i64 (Pinned.cheatRows.getD i (0,[])).1)/\w.cell? ⟨b,o+(2*i+1),none⟩=some (.string ⟨(Pinned.cheatRows.getD i (0,[])).2.toArray⟩)
 u10:Lib.TabIs Tryz.prog w "internal/strconv.uint64pow10" .u64 Lib.pow10Tab
 u8:Lib.Utf8Tabs 4 5 w
theorem aA.keep {w w':H}(h:aA w)(c:∀a v,w.cell? a=some v->w'.cell? a=some v)(r:Lib.Utf8Tabs 4 5 w')(t:∀cs,w.var? Tryz.prog "internal/strconv.uint64pow10" = some cs->w'.var? Tryz.prog "internal/strconv.uint64pow10" = some cs):aA w':=by
 obtain⟨m,s⟩:=h.most;obtain⟨y,v1,g⟩:=h.syn;obtain⟨z,v2,j⟩:=h.rng;obtain⟨b,o,k,l⟩:=h.f10;obtain⟨e,u,n,p⟩:=h.p2;obtain⟨f,x,q,d⟩:=h.cheats;exact⟨c _ _ h.opt,⟨m,c _ _ s⟩,⟨y,v1,c _ _ g⟩,⟨z,v2,c _ _ j⟩,c _ _ h.info0,c _ _ h.info1,c _ _ h.info2,
  ⟨b,o,c _ _ k,fun i hi=>c _ _ (l i hi)⟩,⟨e,u,c _ _ n,fun i hi=>c _ _ (p i hi)⟩,fun i hi=>⟨c _ _ (h.p10 i hi).1,c _ _ (h.p10 i hi).2⟩,
  ⟨f,x,c _ _ q,fun i hi=>⟨c _ _ (d i hi).1,c _ _ (d i hi).2⟩⟩,t _ h.u10,r⟩
theorem aHV:Tryz.prog.globalNamed "internal/strconv.uint64pow10" = some 9:=by kernel_rfl
theorem aA.below {B:Nat}{w w':H}(h:aA w)(c:Below B w w')(e:w.heap.size<=B):aA w':=by
 have f:∀a v,w.cell? a=some v->w'.cell? a=some v:=fun a v d=>by{have:=dx w _ d;rw[c.cell (by omega),d]};refine h.keep f (Utf8Tabs_below h.u8 ⟨c.os,c.tape,c.output,c.size,fun k g=>c.block k (dj g e)⟩) ?_;intro cs d;have i:9<w.heap.size:=by{obtain⟨b,o,h5,_⟩:=h.cheats;have:=dx w _ h5;simp at this;omega};unfold World.var? at d ⊢;simp only[aHV,Option.bind_some]at d ⊢;rw[c.block 9 (by omega)];exact d
theorem aA.drewN {w:H}(h:aA w)(n:Nat):aA (w.drewN n):=h.below (B:=w.heap.size) ⟨rfl,rfl,rfl,ah _,fun _ _=>rfl⟩ aAg
theorem aA.size {w:H}(h:aA w):15<=w.heap.size:=by
 obtain⟨b,o,a,_⟩:=h.cheats;have:=dx w _ a;simp at this;omega
open Go.RowKit
theorem qX (s:I)(w:H):∃cap W,(convert 9 35 (.string s)).run Tryz.prog w=.ok (.slice (some ⟨w.heap.size,0,none⟩) s.size cap) W/\Below w.heap.size w W/\bV W w.heap.size 0 s.data.toList/\s.size<=cap/\w.heap.size<W.heap.size:=by
 refine⟨_,_,ut w 9 35 5 s Tryz.underlying9 Tryz.underlying35 Tryz.underlying5,?_,?_,sj w s.size 0 5,?_⟩
 ·refine⟨?_,?_,?_,by rw[vf];omega,fun k c=>Lib.bytesWorld_at_old w 5 s k c⟩;all_goals
   unfold Lib.bytesWorld World.freeze;split<;>rfl
 {intro j a;have b:j<s.size:=a;rw[bw,Lib.bytesWorld_cell w 5 s j b];simp[List.getD_eq_getElem?_getD,List.getElem?_eq_getElem a]};{rw[vf];omega}
theorem aOV {a b:Int}(h:a=b):Ending.returned (.int .i32 a)=.returned (.int .i32 b):=by rw[h]
theorem aKV (x:Nat)(w:H)(_hx:x<=1114111)(v:Int)(a:G (kT x=v)):Y 76 #[.int .i32 x] w fun e w'=>e=.returned (.int .i32 v)/\w=w':=by
 go_enter Tryz.func76,Tryz.ntmps76;go_wp2
 all_goals
  go_ret;refine⟨?_,rfl⟩;apply aOV;rw[<-a.o];unfold kT;first
   | (rw[af (by omega)];done)
   | (rw[ae (by omega)];done)
   | (rw[ae (by omega)];omega)
theorem aGL (w:H):MapGrows Tryz.prog 76 #[] kT w:=by
 intro W x hx _;have:=aKV x W hx _ (Z rfl);exact this.mono fun e w' ⟨a,b⟩=>⟨a,b▸am _ _⟩
theorem wS (s:I)(t:s.size<=1000000000)(w:H)(T:aA w):Y 32 #[.string s] w (O (.string ⟨(bS s.data.toList).toArray⟩) w):=by
 have p:=Z T;clear T;obtain⟨cap,W,z,g,h,i,j⟩:=qX s w;have d:=Z g;have r:G (bV W w.heap.size 0 s.data.toList):=h;have l:=Z (show s.data.toList.length<=cap from i);have n:=Z (show w.heap.size<W.heap.size from j);clear g h i j;go_enter Tryz.func32,Tryz.ntmps32;go_wp2_with fail;refine(aHH w.heap.size 0 cap s.data.toList (show s.size<=1000000000 from t) l.o W r n.o).mono ?_;rintro e f ⟨rfl,b⟩;have a:=Z (d.o.trans (b.mono d.o.size));have q:=Z (p.o.below a.o aAg);clear b;have hlen:((⟨(mJ s.data.toList).toArray⟩:I)).size<35184372088832:=by{have v:=aCK s.data.toList.length s.data.toList aAg;have x:s.data.toList.length=s.size:=rfl;have y:((⟨(mJ s.data.toList).toArray⟩:I)).size=(mJ s.data.toList).length:=rfl;omega};have m:=Z hlen;clear hlen;go_wp2_with fail;refine(Tryz.strings_Map_grows 76 #[] (fun _ _=>by kernel_rfl) kT _ f m.o (aGL f) aGM q.o.u8).mono ?_;rintro e u ⟨rfl,c⟩;have k:=Z (a.o.trans (c.mono a.o.size));clear c;go_wp2;go_ret;refine⟨?_,k.o⟩;have:Lib.mapD kT (⟨(mJ s.data.toList).toArray⟩:I).data.toList=bS s.data.toList:=aOs s.data.toList;rw[<-this];rfl
open Go.RowKit
section
variable {P:Program} {W:H}
theorem mC {n:String}{d:DataW Unit}{rest:List (String × DataW Unit)}{g:Nat}{t:TypeId}(h:laidMet P ((n,d) :: rest) W)(b:P.globalNamed n=some g)(f:(P.globals[g]?).map (·.type)=some t) :
  ∃cs a p,W.var? P n=some cs/\DataW.trod (fun _=>()) P W 0 (fun _=>true) false a t cs.toList=some (d,p):=by
 obtain⟨k,⟨j,l,cs,a,p,q,c,e,i,hd,_,_⟩,_,_⟩:=h;obtain rfl:=cy (b.symm.trans c);obtain rfl:=cy (f.symm.trans e);exact⟨cs,a,p,i,hd⟩
theorem aIF {t:TypeId}{k:FloatKind}{a b:Nat}{cs:List Value}{p:List MemPlace}(c:P.underlying t=some (.float k))(h:DataW.trod (fun _=>()) P W 0 (fun _=>true) false a t cs=some (.lit (.float k b),p)):cs=[.float k b]:=by
 cases a with|zero=>simp[DataW.trod]at h|succ n=>{unfold DataW.trod at h;rw[c]at h;split at h<;>simp_all}
theorem lT {t:TypeId}{k:IntKind}{c:Nat}{z:Int}{cs:List Value}{p:List MemPlace}(d:P.underlying t=some (.int k))(h:DataW.trod (fun _=>()) P W 0 (fun _=>true) false c t cs=some (.lit (.int k z),p)):cs=[.int k z]:=by
 obtain⟨e,b,a,_⟩:=sr d h;simp only[ie,DataW.lit.injEq,Lit.int.injEq,fk]at a;rw[b,a.1]
theorem aK2 {t:TypeId}{a:Nat}{l:U}{cs:List Value}{p:List MemPlace}(c:P.underlying t=some .string)(h:DataW.trod (fun _=>()) P W 0 (fun _=>true) false a t cs=some (.lit (.string l),p)):cs=[.string ⟨l.toArray⟩]:=by
 cases a with|zero=>simp[DataW.trod]at h|succ n=>{unfold DataW.trod at h;rw[c]at h;split at h;(all_goals first|(simp_all;done)|skip);split at h;{simp only[d6,ie,DataW.lit.injEq,Lit.string.injEq]at h;obtain⟨b,_⟩:=h;subst b;rfl};{cases h}}
theorem aAJ {t e:TypeId}{j:Nat}{cs:List Value}{b:List (DataW Unit)}{p:List MemPlace}(u:P.underlying t=some (.slice e))(h:DataW.trod (fun _=>()) P W 0 (fun _=>true) false j t cs=some (.slice b [],p)) :
  ∃a n,cs=[.slice (some a) b.length b.length]/\∀i d,b[i]?=some d->∃q,(W.cells? 0 (a.add (i*P.cellsOf e)) (P.cellsOf e)).bind (DataW.trod (fun _=>()) P W 0 (fun _=>true) false n e)=some (d,q):=by
 rcases DataW.trod_slice u h with⟨_,hx⟩|⟨a,len,cap,g,rest,n,_,m,hx,_,v,_,hlen,r,s,_⟩
 ·simp at hx
 ·simp only[ie,DataW.slice.injEq]at hx;obtain⟨⟨c,k⟩,_⟩:=hx;have hr:rest=[]:=by simpa using k.symm
  have f:=(s rfl).1;rw[hr]at f
  have l:cap=len:=by simp at f;omega
  have o:b.length=len:=by rw[c];simpa using hlen
  refine⟨a,n,by rw[m,l,o],?_⟩;intro i d hd;have hi:i<len:=by
   have:=(fc.1 hd).1;omega
  rw[r i hi];rw[c,gk]at hd
  cases he:g[i]? with
  | none=>rw[he]at hd;cases hd
  | some x =>
   rw[he]at hd
   simp only[mg,d6]at hd;exact⟨x.2,by rw[<-hd]⟩
theorem aCt {t e:TypeId}{k:Nat}{cs:List Value}{c:List (DataW Unit)}{p:List MemPlace}(B:P.underlying t=some (.slice e))(u:P.cellsOf e=1)(h:DataW.trod (fun _=>()) P W 0 (fun _=>true) false k t cs=some (.slice c [],p))(z:0<c.length) :
  ∃b o n,cs=[.slice (some ⟨b,o,none⟩) c.length c.length]/\∀i d,c[i]?=some d->∃v q,W.cell? ⟨b,o+i,none⟩=some v/\DataW.trod (fun _=>()) P W 0 (fun _=>true) false n e [v]=some (d,q):=by
 obtain⟨a,n,w,y⟩:=aAJ B h;have one:∀i d,c[i]?=some d->∃v q,W.cell? (a.add i)=some v/\DataW.trod (fun _=>()) P W 0 (fun _=>true) false n e [v]=some (d,q):=by
  intro i d hd;obtain⟨q,hq⟩:=y i d hd;rw[u,df]at hq
  cases hx:W.cells? 0 (a.add i) 1 with
  | none=>rw[hx]at hq;cases hq
  | some l =>
   rw[hx]at hq
   obtain⟨v,rfl⟩:∃v,l=[v]:=by
    have j:=Lib.mapM_length (f:=fun C=>W.cell? ((a.add i).add C)) (l:=List.range 1) (r:=l) (by unfold World.cells? at hx;rw[af (bb _)]at hx;exact hx);simp at j;match l,j with
    | [v],_=>exact⟨v,rfl⟩
   exact⟨v,q,Go.ChangeShapes.cell_of_cells?_one hx,hq⟩
 obtain⟨d0,x⟩:∃d0,c[0]?=some d0:=⟨c[0],bc z⟩
 obtain⟨F,E,m,_⟩:=one 0 d0 x;obtain⟨b,o,D⟩:=a;have A:D=none:=by simpa [Addr.add]using World.cell?_spot m
 subst A;refine⟨b,o,n,w,?_⟩;intro i d hd;obtain⟨v,q,g,s⟩:=one i d hd;rw[qd]at g
 exact⟨v,q,g,s⟩
theorem aIs {t e:TypeId}{w:Nat}{cs:List Value}{c:List (DataW Unit)}{p:List MemPlace}(K:P.underlying t=some (.slice e))(z:P.cellsOf e=2)(h:DataW.trod (fun _=>()) P W 0 (fun _=>true) false w t cs=some (.slice c [],p))(F:0<c.length) :
  ∃b o n,cs=[.slice (some ⟨b,o,none⟩) c.length c.length]/\∀i d,c[i]?=some d->∃v u q,W.cell? ⟨b,o+2*i,none⟩=some v/\W.cell? ⟨b,o+(2*i+1),none⟩=some u/\DataW.trod (fun _=>()) P W 0 (fun _=>true) false n e [v,u]=some (d,q):=by
 obtain⟨a,n,A,C⟩:=aAJ K h;have one:∀i d,c[i]?=some d->∃v u q,W.cell? ((a.add (i*2)).add 0)=some v/\W.cell? ((a.add (i*2)).add 1)=some u/\DataW.trod (fun _=>()) P W 0 (fun _=>true) false n e [v,u]=some (d,q):=by
  intro i d hd;obtain⟨q,hq⟩:=C i d hd;rw[z]at hq
  cases hx:W.cells? 0 (a.add (i*2)) 2 with
  | none=>rw[hx]at hq;cases hq
  | some l =>
   rw[hx]at hq
   have f:(List.range 2).mapM (fun k=>W.cell? ((a.add (i*2)).add k))=some l:=by unfold World.cells? at hx;rw[af (bb _)]at hx;exact hx
   have s:=Lib.mapM_length f;simp at s;match l,s with
   | [v,u],_ =>
    obtain⟨x0,m,D⟩:=Lib.mapM_at f 0 0 (by simp);obtain⟨x1,r,E⟩:=Lib.mapM_at f 1 1 (by simp);simp only[m7,d6]at m;simp only[m6,m7,d6]at r;subst m;subst r;exact⟨_,_,q,D,E,hq⟩
 obtain⟨d0,B⟩:∃d0,c[0]?=some d0:=⟨c[0],bc F⟩
 obtain⟨N,u0,M,x,_,_⟩:=one 0 d0 B;obtain⟨b,o,L⟩:=a;have J:L=none:=by simpa [Addr.add]using World.cell?_spot x
 subst J;refine⟨b,o,n,A,?_⟩;intro i d hd;obtain⟨v,u,q,g,j,y⟩:=one i d hd;rw[xV,qd]at g j
 rw[show o+2*i=o+(i*2+0) by omega,show o+(2*i+1)=o+(i*2+1) by omega];exact⟨v,u,q,g,j,y⟩
end
theorem aQz {W:H}{rest:List (String × DataW Unit)}(h:laidMet Tryz.prog (("internal/strconv.optimize",Rows.laid_internal_strconv_optimize) :: rest) W):W.cell? ⟨7,0,none⟩=some (.bool true):=by
 have a:Tryz.prog.globalNamed "internal/strconv.optimize" = some 7:=by{kernel_rfl};obtain⟨cs,g,p,f,hd⟩:=mC h a (show(Tryz.prog.globals[7]?).map (·.type)=some 4 by kernel_rfl);obtain⟨b,c,d⟩:=DataW.trod_bool Tryz.underlying4 hd;have e:b=true:=by{have:=(go d).1;simpa [Rows.laid_internal_strconv_optimize]using this.symm};rw[im a f 0];have:cs.toList[0]?=some (.bool b):=by{rw[c];rfl};rw[e]at this;simpa using this
theorem aQU {W:H}{rest:List (String × DataW Unit)}(h:laidMet Tryz.prog (("internal/strconv.uint64pow10",Rows.laid_internal_strconv_uint64pow10) :: rest) W):Lib.TabIs Tryz.prog W "internal/strconv.uint64pow10" .u64 Lib.pow10Tab:=by
 have e:(Rows.laid_internal_strconv_uint64pow10:DataW Unit)=Lib.tabData .u64 Lib.pow10Tab:=by{kernel_rfl};rw[e]at h;exact Lib.tabIs_of_head aHV (show(Tryz.prog.globals[9]?).map (·.type)=some 259 by kernel_rfl) Tryz.underlying259 Tryz.underlying163 (by kernel_rfl) (by kernel_rfl) h
open Go.RowKit
theorem zY {a b:List (DataW Unit)}(h:DataW.agg a=DataW.agg b):a=b:=by cases h;rfl
theorem aQb {W:H}{rest:List (String × DataW Unit)}(h:laidMet Tryz.prog (("internal/strconv.float64pow10",Rows.laid_internal_strconv_float64pow10) :: rest) W) :
  ∃b o,W.cell? ⟨12,0,none⟩=some (.slice (some ⟨b,o,none⟩) 23 23)/\∀i,i<23->W.cell? ⟨b,o+i,none⟩=some (.float .f64 (gC.getD i 0)):=by
 have a:Tryz.prog.globalNamed "internal/strconv.float64pow10" = some 12:=by{kernel_rfl};obtain⟨cs,j,p,g,hd⟩:=mC h a (show(Tryz.prog.globals[12]?).map (·.type)=some 273 by kernel_rfl);have e:(Rows.laid_internal_strconv_float64pow10:DataW Unit)=.slice (gC.map fun b=>.lit (.float .f64 b)) []:=by{kernel_rfl};rw[e]at hd;obtain⟨b,o,n,c,f⟩:=aCt Tryz.underlying273 (by kernel_rfl) hd (by decide);refine⟨b,o,?_,?_⟩;{rw[im a g 0];have:cs.toList[0]?=some (.slice (some ⟨b,o,none⟩) 23 23):=by{rw[c];rfl};simpa using this};{intro i hi;have k:gC.length=23:=by{decide};obtain⟨v,q,h1,d⟩:=f i (.lit (.float .f64 (gC.getD i 0))) (by rw[gk,List.getD,bc (by omega)];rfl);have:=aIF Tryz.underlying25 d;simp only[fu,fm]at this;rw[h1,this]}
theorem aRD {W:H}{rest:List (String × DataW Unit)}(h:laidMet Tryz.prog (("internal/strconv.powtab",Rows.laid_internal_strconv_powtab) :: rest) W) :
  ∃b o,W.cell? ⟨11,0,none⟩=some (.slice (some ⟨b,o,none⟩) 9 9)/\∀i,i<9->W.cell? ⟨b,o+i,none⟩=some (.int .i64 (aCc.getD i 0)):=by
 have a:Tryz.prog.globalNamed "internal/strconv.powtab" = some 11:=by{kernel_rfl};obtain⟨cs,j,p,g,hd⟩:=mC h a (show(Tryz.prog.globals[11]?).map (·.type)=some 272 by kernel_rfl);have e:(Rows.laid_internal_strconv_powtab:DataW Unit)=.slice (aCc.map fun b=>.lit (.int .i64 b)) []:=by{kernel_rfl};rw[e]at hd;obtain⟨b,o,n,c,f⟩:=aCt Tryz.underlying272 (by kernel_rfl) hd (by decide);refine⟨b,o,?_,?_⟩;{rw[im a g 0];have:cs.toList[0]?=some (.slice (some ⟨b,o,none⟩) 9 9):=by{rw[c];rfl};simpa using this};{intro i hi;have k:aCc.length=9:=by{decide};obtain⟨v,q,h1,d⟩:=f i (.lit (.int .i64 (aCc.getD i 0))) (by rw[gk,List.getD,bc (by omega)];rfl);have:=lT Tryz.underlying3 d;simp only[fu,fm]at this;rw[h1,this]}
theorem aJb {W:H}{rest:List (String × DataW Unit)}(h:laidMet Tryz.prog (("internal/strconv.leftcheats",Rows.laid_internal_strconv_leftcheats) :: rest) W) :
  ∃b o,W.cell? ⟨14,0,none⟩=some (.slice (some ⟨b,o,none⟩) 61 61)/\∀i,i<61->W.cell? ⟨b,o+2*i,none⟩=some (.int .i64 (Pinned.cheatRows.getD i (0,[])).1)/\W.cell? ⟨b,o+(2*i+1),none⟩=some (.string ⟨(Pinned.cheatRows.getD i (0,[])).2.toArray⟩):=by
 have d:Tryz.prog.globalNamed "internal/strconv.leftcheats" = some 14:=by{kernel_rfl};obtain⟨cs,y,p,t,hd⟩:=mC h d (show(Tryz.prog.globals[14]?).map (·.type)=some 287 by kernel_rfl);have e:(Rows.laid_internal_strconv_leftcheats:DataW Unit)=.slice (Pinned.cheatRows.map fun x=>.agg [.lit (.int .i64 x.1),.lit (.string x.2)]) []:=rfl;have f:Pinned.cheatRows.length=61:=by{kernel_rfl};rw[e]at hd;obtain⟨b,o,n,c,r⟩:=aIs Tryz.underlying287 (by kernel_rfl) hd (by rw[dc,f];omega);rw[dc,f]at c;refine⟨b,o,?_,?_⟩;{rw[im d t 0];have:cs.toList[0]?=some (.slice (some ⟨b,o,none⟩) 61 61):=by{rw[c];rfl};simpa using this};{intro i hi;obtain⟨x,hx⟩:∃x,Pinned.cheatRows[i]?=some x:=⟨_,bc (by omega)⟩;have s:Pinned.cheatRows.getD i (0,[])=x:=by{rw[List.getD,hx];rfl};rw[s];obtain⟨v,u,q,h1,h2,l⟩:=r i (.agg [.lit (.int .i64 x.1),.lit (.string x.2)]) (by rw[gk,hx];rfl);obtain⟨w,y1,m,ex,_,hy0,g⟩:=vg Tryz.underlying286 l;have j:Tryz.prog.cellsOf 3=1:=by{kernel_rfl};have k:Tryz.prog.cellsOf 9=1:=by{kernel_rfl};simp only[ie]at ex;have a:=zY ex.1;simp only[fu,fm]at a;obtain⟨z,A⟩:=w;obtain⟨B,C⟩:=y1;dsimp only at a;rw[<-a.1,j]at hy0;rw[<-a.2,k]at g;have k0:=lT Tryz.underlying3 hy0;have k1:=aK2 Tryz.underlying9 g;simp at k0 k1;rw[h1,h2,k0,k1];exact⟨rfl,rfl⟩}
theorem aQB {W:H}{rest:List (String × DataW Unit)}(h:laidMet Tryz.prog (("internal/strconv.pow10Tab",Rows.laid_internal_strconv_pow10Tab) :: rest) W) :
  ∀i,i<696->W.cell? ⟨13,2*i,none⟩=some (.int .u64 (aJ i))/\W.cell? ⟨13,2*i+1,none⟩=some (.int .u64 (aR i)):=by
 have d:Tryz.prog.globalNamed "internal/strconv.pow10Tab" = some 13:=by{kernel_rfl};obtain⟨cs,v,p,l,hd⟩:=mC h d (show(Tryz.prog.globals[13]?).map (·.type)=some 283 by kernel_rfl);have e:(Rows.laid_internal_strconv_pow10Tab:DataW Unit)=.agg (Pinned.pow10Rows.map fun x=>.agg [.lit (.int .u64 x.1),.lit (.int .u64 x.2)]):=rfl;have w:Pinned.pow10Rows.length=696:=by{kernel_rfl};have q:Tryz.prog.cellsOf 282=2:=by{kernel_rfl};have f:Tryz.prog.cellsOf 163=1:=by{kernel_rfl};rw[e]at hd;obtain⟨o,m,_,ex,_,y,r⟩:=DataW.trod_array Tryz.underlying283 hd;intro i hi;obtain⟨x,hx⟩:∃x,Pinned.pow10Rows[i]?=some x:=⟨_,bc (by omega)⟩;have hhi:aJ i=x.1:=by{unfold aJ;rw[List.getD,hx];rfl};have s:aR i=x.2:=by{unfold aR;rw[List.getD,hx];rfl};have c:=r i hi;rw[q]at c;have a:(o.map (·.1))[i]?=some (.agg [.lit (.int .u64 x.1),.lit (.int .u64 x.2)]):=by{have:=zY (go ex).1;rw[<-this,gk,hx];rfl};rw[gk]at a;cases hq:o[i]? with|none=>{rw[hq]at a;cases a}|some z=>{rw[hq]at c a;simp only[mg,d6]at a;obtain⟨E,F⟩:=z;dsimp only at a;rw[a]at c;obtain⟨u,y1,k,ey,_,hy0,n⟩:=vg Tryz.underlying282 c;simp only[ie]at ey;have b:=zY ey.1;simp only[fu,fm]at b;obtain⟨A,B⟩:=u;obtain⟨C,D⟩:=y1;dsimp only at b;rw[<-b.1,f]at hy0;rw[<-b.2,f]at n;have t:=lT Tryz.underlying163 hy0;have k1:=lT Tryz.underlying163 n;rw[im d l,im d l,hhi,s];have g:=az (·[0]?) t;have j:=az (·[0]?) k1;simp[List.getElem?_drop]at g j;rw[bn 2 i];exact⟨by simpa using g,by simpa using j⟩}
theorem aOl {W:H}{rest:List (String × DataW Unit)}(h:laidMet Tryz.prog (("internal/strconv.float64info",Rows.laid_internal_strconv_float64info) :: rest) W) :
  W.cell? ⟨8,0,none⟩=some (.int .u64 52)/\W.cell? ⟨8,1,none⟩=some (.int .u64 11)/\W.cell? ⟨8,2,none⟩=some (.int .i64 (-1023)):=by
 have b:Tryz.prog.globalNamed "internal/strconv.float64info" = some 8:=by{kernel_rfl};obtain⟨cs,s,p,c,hd⟩:=mC h b (show(Tryz.prog.globals[8]?).map (·.type)=some 225 by kernel_rfl);have d:Tryz.prog.cellsOf 148=1:=by{kernel_rfl};have l:Tryz.prog.cellsOf 3=1:=by{kernel_rfl};obtain⟨o,q,r,n,ex,_,i,j,k⟩:=Deep.trod_struct3 Tryz.underlying225 hd;have a:=zY (go ex).1;simp only[fu,fm]at a;obtain⟨t,u⟩:=o;obtain⟨v,w⟩:=q;obtain⟨x,y⟩:=r;dsimp only at a;rw[<-a.1,d]at i;rw[<-a.2.1,d]at j;rw[<-a.2.2,l]at k;have m:=lT Tryz.underlying148 i;have k1:=lT Tryz.underlying148 j;have k2:=lT Tryz.underlying3 k;rw[im b c,im b c,im b c];have e:=az (·[0]?) m;have f:=az (·[0]?) k1;have g:=az (·[0]?) k2;simp[List.getElem?_drop]at e f g;exact⟨by simpa using e,by simpa using f,by simpa using g⟩
theorem aDH : "*" ++ "errors.errorString" = "*errors.errorString" := by decide
theorem aBG (u:TypeId)(h:Tryz.prog.typeName? 3 u=some "*errors.errorString"):u=240 :=
 typeName_ptr_named (nm := "errors.errorString") (by rw[aDH];kernel_rfl) (by kernel_rfl) (by decide) u (by rw[aDH];exact h)
theorem aJm {W:H}{n:String}{e:U}{g:Nat}{rest:List (String × DataW Unit)}(h:laidMet Tryz.prog ((n,.iface "*errors.errorString" (.ptr (.agg [.lit (.string e)]))) :: rest) W)
  (b:Tryz.prog.globalNamed n=some g) (c:(Tryz.prog.globals[g]?).map (·.type)=some 73):∃t v,W.cell? ⟨g,0,none⟩=some (.iface t v):=by
 obtain⟨a,s,d,_,_,_⟩:=laid_sentinel h b c Tryz.underlying73 aBG Tryz.underlying240 Tryz.underlying242 rfl rfl Tryz.underlying9 (by kernel_rfl) (by kernel_rfl);exact⟨_,_,by rw[im b d 0];rfl⟩
def nI:List (String × DataW Unit):=Rows.realSameRow.laid
theorem aOw {W:H}(h:W.ShapedOpen Tryz.prog):∃m,W.cell? ⟨1,0,none⟩=some (.int .i64 m) :=
 cell_of_shapedOpen_int (t:=3) (zero:=#[.int .i64 0]) h (br (by kernel_rfl)) (by kernel_rfl) rfl (by kernel_rfl) (by kernel_rfl) Tryz.underlying3
def aNv:Go.Shelf.Ren:=⟨fun n=>n,fun|5=>5|119=>197|138=>199|139=>200|n=>n,fun|3=>4|4=>5|n=>n⟩
theorem aPu:U8Types Tryz.prog aNv:={ t5:=Tryz.underlying5,t119:=Tryz.underlying197,t138:=Tryz.underlying199,t139:=Tryz.underlying200 }
theorem aPt:U8Extra Tryz.prog aNv:={ n3:=by kernel_rfl,n4:=by kernel_rfl,y3:=by kernel_rfl,y4:=by kernel_rfl,c5:=by kernel_rfl,c119:=by kernel_rfl,c138:=by kernel_rfl }
theorem aRL {W:H}(h:laidMet Tryz.prog nI W):Lib.Utf8Tabs 4 5 W:=by
 have b:Lib.VarReads Tryz.prog W "unicode/utf8.first" Lib.firstData:=by{have:=Lib.laidMet.reads h (n := "unicode/utf8.first") (d:=Rows.laid_unicode_utf8_first) (by unfold nI Rows.realSameRow;simp);rw[show Rows.laid_unicode_utf8_first=Lib.firstData by kernel_rfl]at this;exact this};have a:Lib.VarReads Tryz.prog W "unicode/utf8.acceptRanges" Lib.acceptData:=by{have:=Lib.laidMet.reads h (n := "unicode/utf8.acceptRanges") (d:=Rows.laid_unicode_utf8_acceptRanges) (by unfold nI Rows.realSameRow;simp);rw[show(Rows.laid_unicode_utf8_acceptRanges:DataW Unit)=Lib.acceptData by kernel_rfl]at this;exact this};exact utf8Tabs_of_readsT aPu aPt b a
theorem aPe {W:H}(j:laidMetH Tryz.prog nI W)(l:W.ShapedOpen Tryz.prog):aA W:=by
 rw[ue _ _ _ (by kernel_rfl)]at j;have h:laidMet Tryz.prog [("math/bits.deBruijn32tab",Rows.laid_math_bits_deBruijn32tab),("math/bits.deBruijn64tab",Rows.laid_math_bits_deBruijn64tab),("internal/strconv.float32info",Rows.laid_internal_strconv_float32info),("internal/strconv.float64info",Rows.laid_internal_strconv_float64info),("internal/strconv.optimize",Rows.laid_internal_strconv_optimize),("internal/strconv.powtab",Rows.laid_internal_strconv_powtab),("internal/strconv.float64pow10",Rows.laid_internal_strconv_float64pow10),("internal/strconv.float32pow10",Rows.laid_internal_strconv_float32pow10),("internal/strconv.uint64pow10",Rows.laid_internal_strconv_uint64pow10),("unicode/utf8.acceptRanges",Rows.laid_unicode_utf8_acceptRanges),("strconv.ErrRange",Rows.laid_strconv_ErrRange),("strconv.ErrSyntax",Rows.laid_strconv_ErrSyntax),("internal/strconv.leftcheats",Rows.laid_internal_strconv_leftcheats),("internal/strconv.pow10Tab",Rows.laid_internal_strconv_pow10Tab),("unicode/utf8.first",Rows.laid_unicode_utf8_first)] W:=j;have d:=h.tail.tail.tail;have e:=d.tail;have f:=e.tail;have g:=f.tail;have i:=g.tail.tail;have a:=i.tail.tail;have b:=a.tail;have c:=b.tail;have k:=c.tail;obtain⟨m,n,o⟩:=aOl d;exact⟨aQz e,aOw l,aJm b (by kernel_rfl) (by kernel_rfl),aJm a (by kernel_rfl) (by kernel_rfl),m,n,o,aQb g,aRD f,aQB k,aJb c,aQU i,aRL h⟩
open Go.ChangeShapes Go.WideShapes Go.ChangeAt Go.RowKit
theorem own:ownKnob Tryz.prog.godebug=none:=by kernel_rfl
open Go.RowKit PU8
structure mR (rs:List Nat) (k:Nat) (ks:List Nat):Prop where
 le:k<=rs.length
 len:ks.length<=k
 o:ks=(rs.take k).filter eW
theorem mR.start (a:List Nat):mR a 0 []:=⟨bb _,ah _,rfl⟩
theorem mR.yes {a:List Nat}{k:Nat}{c:List Nat}(h:mR a k c)(b:k<a.length)(hr:eW a[k]=true):mR a (k+1) (c++[a[k]]):=by
 refine⟨b,?_,?_⟩;{have:=h.len;simp;omega};{rw[fl b,ma,<-h.o];simp[hr]}
theorem mR.no {a:List Nat}{k:Nat}{ks:List Nat}(h:mR a k ks)(b:k<a.length)(hr:eW a[k]=false):mR a (k+1) ks:=by
 refine⟨b,?_,?_⟩;{have:=h.len;omega};{rw[fl b,ma,<-h.o];simp[hr]}
theorem aKB (L:U):(fH L).length<=L.length:=by
 have h:∀(n:Nat) (l:U),l.length<=n->(fH l).length<=l.length:=by{intro n;induction n with|zero=>{intro l c;rw[fj (by omega:l.length=0)];exact ah _}|succ n ih=>{intro l c;by_cases a:l=[];{subst a;exact ah _};{rw[oR l a,bv];have d:=qH l a;have b:=ih (l.drop (pieceU (aI l)).1) (by rw[bm];omega);rw[bm]at b;have:1<=l.length:=by{rcases l with _|⟨_,_⟩;exact absurd rfl a;simp};omega}}};exact h L.length L aAg
theorem yX (s:I)(hs:s.size<=1000000000)(w:H):Y 33 #[.string s] w (O (.string ⟨(bS s.data.toList).toArray⟩) w):=by
 obtain⟨q,hi,m,n,p⟩:=cx Tryz.info21;obtain⟨cap,W,aw,Q,R,ad,aa⟩:=qX s w;have X:s.data.toList.length=s.size:=rfl;have V:=aKB s.data.toList;have B:=tT s.data.toList.length s.data.toList aAg;have C:=aIi w.heap.size 0 cap s.data.toList W (Z R) aa (by omega);rw[X]at C V;have N:bS s.data.toList=((fH s.data.toList).filter eW).flatMap aV:=rfl;unfold aDd at C;rw[N];generalize fH s.data.toList=rs at C V B;have E:=Z Q;have HC:=Z C;have K:=Z B;clear Q R ad aa C B X N;go_enter Tryz.func33,Tryz.ntmps33;go_wp2_with fail;refine HC.o.mono ?_;rintro e y ⟨v,rfl,z⟩;have F:=Z (E.o.trans (z.bel.mono E.o.size));have L:=Z z.vec;clear z;obtain⟨a,c,rfl,_⟩:=L.o;go_wp2;go_loopw [4,5] (fun o i wx=>∃(k:Nat) (ks:List Nat),i=.int .i64 k/\G (mR rs k ks)/\G (aF y.heap.size 21 1 o ks.length (ks.map oQ) y wx)) (fun _ i _=>rs.length-(intOf i).toNat);case atStart=>exact⟨0,[],rfl,Z (mR.start rs),Z (aF.nil y 21 1)⟩
 case round =>obtain⟨k,ks,rfl,f,b⟩:=hrel;have hk:=f.o.le;have ao:=f.o.len;rcases ak k rs.length with l|an;{obtain⟨g,off,c',hva,S⟩:=(L.o.below b.o.bel aAg).get k (by simpa using l);simp only[ce,fk]at hva;obtain⟨rfl,rfl⟩:=hva;rw[nr]at S;have av:=(K.o rs[k] (dz l)).2;have j:=Z (f.o.yes l);have x:=Z (f.o.no l);generalize rs[k]=r at *;unfold oQ at S;have al:r<9\/r=9\/r=10\/(10<r/\r<32)\/(32<=r/\r<127)\/(127<=r/\r<=159)\/159<r:=by{omega};rcases al with h|rfl|rfl|⟨h,M⟩|⟨h,M⟩|⟨h,M⟩|h;{have HF:=Z (x.o (by unfold eW;simp;omega));have t:((r:Int)==9)=false:=by{rw[ai];omega};have u:((r:Int)==10)=false:=by{rw[ai];omega};go_wp2;go_roundw;(case rel=>exact⟨k+1,ks,by go_num,HF,b⟩);case measure=>simp[intOf];omega};{have HF:=Z (j.o rfl);go_wp2_with (at_builtin;refine aU (by rfl) _ _ 85 (by rfl) 21 q (.int .i32 0) 1 4 Tryz.underlying85 hi m n p rfl (by decide) _ _ _ rfl b.o #[.int .i32 (9:Nat)] rfl rfl rfl rfl (by omega) (by omega) ?_);intro v' w' d _;go_wp2;go_roundw;(case rel=>exact⟨k+1,ks++[9],by go_num,HF,Z (d.o.cast (by simp) (by simp[oQ]))⟩);case measure=>simp[intOf];omega};{have HF:=Z (j.o rfl);go_wp2_with (at_builtin;refine aU (by rfl) _ _ 85 (by rfl) 21 q (.int .i32 0) 1 4 Tryz.underlying85 hi m n p rfl (by decide) _ _ _ rfl b.o #[.int .i32 (10:Nat)] rfl rfl rfl rfl (by omega) (by omega) ?_);intro v' w' d _;go_wp2;go_roundw;(case rel=>exact⟨k+1,ks++[10],by go_num,HF,Z (d.o.cast (by simp) (by simp[oQ]))⟩);case measure=>simp[intOf];omega};{have HF:=Z (x.o (by unfold eW;simp;omega));have t:((r:Int)==9)=false:=by{rw[ai];omega};have u:((r:Int)==10)=false:=by{rw[ai];omega};go_wp2;go_roundw;(case rel=>exact⟨k+1,ks,by go_num,HF,b⟩);case measure=>simp[intOf];omega};{have HF:=Z (j.o (by unfold eW;simp;omega));have t:((r:Int)==9)=false:=by{rw[ai];omega};have u:((r:Int)==10)=false:=by{rw[ai];omega};go_wp2_with (at_builtin;refine aU (by rfl) _ _ 85 (by rfl) 21 q (.int .i32 0) 1 4 Tryz.underlying85 hi m n p rfl (by decide) _ _ _ rfl b.o #[.int .i32 r] rfl rfl rfl rfl (by omega) (by omega) ?_);intro v' w' d _;go_wp2;go_roundw;(case rel=>exact⟨k+1,ks++[r],by go_num,HF,Z (d.o.cast (by simp) (by simp[oQ]))⟩);case measure=>simp[intOf];omega};{have HF:=Z (x.o (by unfold eW;simp;omega));have t:((r:Int)==9)=false:=by{rw[ai];omega};have u:((r:Int)==10)=false:=by{rw[ai];omega};go_wp2;go_roundw;(case rel=>exact⟨k+1,ks,by go_num,HF,b⟩);case measure=>simp[intOf];omega};{have HF:=Z (j.o (by unfold eW;simp;omega));have t:((r:Int)==9)=false:=by{rw[ai];omega};have u:((r:Int)==10)=false:=by{rw[ai];omega};go_wp2_with (at_builtin;refine aU (by rfl) _ _ 85 (by rfl) 21 q (.int .i32 0) 1 4 Tryz.underlying85 hi m n p rfl (by decide) _ _ _ rfl b.o #[.int .i32 r] rfl rfl rfl rfl (by omega) (by omega) ?_);intro v' w' d _;go_wp2;go_roundw;(case rel=>exact⟨k+1,ks++[r],by go_num,HF,Z (d.o.cast (by simp) (by simp[oQ]))⟩);case measure=>simp[intOf];omega}};{have A:ks=rs.filter eW:=by{have:=f.o.o;rw[show k=rs.length by omega,kh]at this;exact this};have T:∀r∈ks,Val r:=fun r hr=>by{rw[A]at hr;exact K.o r (jq.1 hr).1};have HX:=Z A;have ac:=Z T;have HW:=Z b.o.vec;have J:=Z (F.o.trans (b.o.bel.mono F.o.size));clear A T;go_wp2_with fail;refine(aGA ks ac (by omega) _ wr HW).mono ?_;rintro e W2 ⟨rfl,D⟩;have ab:=Z (J.o.trans (D.mono J.o.size));clear D;go_wp2;go_ret;refine⟨?_,ab.o⟩;rw[HX.o];rfl}
