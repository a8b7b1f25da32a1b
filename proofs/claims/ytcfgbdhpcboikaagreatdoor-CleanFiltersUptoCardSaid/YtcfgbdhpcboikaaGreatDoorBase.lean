/-
Lemmas on byte slices and frames, over any program: what a copy, an append, a conversion to a string does to slices of bytes. No program in sight.
-/
import Derived.WalkLawsBesides
import Derived.WalkSpells
import Derived.Laws.CopyOwn
import Derived.Laws.AppendOwnNone
import Derived.StillTailTactics
import Derived.Test.YtcfgbdhpcboikaaGreatDoorDecLaw
import Derived.Test.YtcfgbdhpcboikaaGreatDoorProg
import Derived.BigQuiet
import Derived.Lib.Hide
import Derived.Deep.LoopGhost
import GoSem.PinnedTables
namespace Go.Proofs.YtcfgbdhpcboikaaGreatDoor
set_option maxHeartbeats 1000000
set_option maxRecDepth 100000
open Go.RowKit
def dE (b:UInt8):Value:=.int .u8 b.toNat
theorem aD4 (cs:U):∀v∈cs.map dE,v.oneCell'=true:=by
 intro v c;obtain⟨b,_,rfl⟩:=g9.1 c;rfl
structure aD (S:Nat->Prop) (w w':H):Prop where
 os:w'.os=w.os
 tape:w'.tape=w.tape
 output:w'.output=w.output
 size:w.heap.size<=w'.heap.size
 block:∀k,k<w.heap.size->¬S k->w'.heap[k]?=w.heap[k]?
theorem aD.refl (S:Nat->Prop)(w:H):aD S w w:=⟨rfl,rfl,rfl,ah _,fun _ _ _=>rfl⟩
theorem aD.trans {S:Nat->Prop}{a b c:H}(h:aD S a b)(k:aD S b c):aD S a c :=
 ⟨k.os.trans h.os,k.tape.trans h.tape,k.output.trans h.output,bg h.size k.size,fun i hi d=>(k.block i (dj hi h.size) d).trans (h.block i hi d)⟩
theorem aD.mono {S S':Nat->Prop}{a b:H}(h:aD S a b)(e:∀k,k<a.heap.size->S k->S' k):aD S' a b :=
 ⟨h.os,h.tape,h.output,h.size,fun k c d=>h.block k c (fun x=>d (e k c x))⟩
theorem aD.trans' {S S':Nat->Prop}{a b c:H}(h:aD S a b)(k:aD S' b c)(e:∀i,i<a.heap.size->S' i->S i):aD S a c :=
 ⟨k.os.trans h.os,k.tape.trans h.tape,k.output.trans h.output,bg h.size k.size,fun i hi d=>(k.block i (dj hi h.size) (fun x=>d (e i hi x))).trans (h.block i hi d)⟩
theorem aD.drew {S:Nat->Prop}{a b:H}(h:aD S a b):aD S a b.drew:=⟨h.os,h.tape,h.output,h.size,h.block⟩
theorem aD.drewN {S:Nat->Prop}{a b:H}(h:aD S a b)(n:Nat):aD S a (b.drewN n):=⟨h.os,h.tape,h.output,h.size,h.block⟩
theorem aD.alloc {S:Nat->Prop}{a b:H}(h:aD S a b)(o:Obj):aD S a (b.alloc o) :=
 h.trans ⟨rfl,rfl,rfl,by simp,fun k c _=>jy b o k c⟩
theorem aD.setCell {S:Nat->Prop}{a b:H}(h:aD S a b)(p:Addr)(v:Value)(d:p.block<a.heap.size->S p.block):aD S a (b.setCell p v) :=
 h.trans' (S':=(· = p.block)) ⟨rfl,rfl,rfl,by simp[World.setCell],fun k _ c=>f8 b p k v c⟩ (fun i hi e=>by subst e;exact d hi)
theorem aD.below {S:Nat->Prop}{B:Nat}{w w':H}(h:aD S w w')(c:B<=w.heap.size)(b:∀k,k<w.heap.size->S k->B<=k):Below B w w' :=
 ⟨h.os,h.tape,h.output,h.size,fun k d=>h.block k (by omega) (fun x=>by have:=b k (by omega) x;omega)⟩
theorem aD.of_below {B:Nat}{w w':H}(h:Below B w w'):aD (B<=·) w w' :=
 ⟨h.os,h.tape,h.output,h.size,fun k _ b=>h.block k (by omega)⟩
theorem aD.of_grownBy {w w':H}{row:Option Nat}(h:w.grownBy w' row):aD (fun k=>some k=row) w w' :=
 ⟨h.os,h.tape,h.output,h.size,fun k b c=>h.block k b c⟩
theorem aD.heap {S:Nat->Prop}{w w':H}(h:aD S w w'){k:Nat}{o:Obj}(b:w.heap[k]?=some o)(c:¬S k):w'.heap[k]?=some o :=
 (h.block k (dq.1 b).1 c).trans b
theorem aD.cell {S:Nat->Prop}{w w':H}(h:aD S w w'){p:Addr}{v:Value}(b:w.cell? p=some v)(c:¬S p.block):w'.cell? p=some v :=
 (qo (h.block p.block (dx w p b) c)).trans b
def IsB (w:H)(a:Option Addr)(bs:U):Prop :=
 ∀j b,bs[j]?=some b->∃x,a=some x/\w.cell? (x.add j)=some (dE b)
theorem xV (x:Addr)(i j:Nat):(x.add i).add j=x.add (i+j):=by
 unfold Addr.add;by_cases hi:i=0<;>by_cases b:j=0<;>simp[hi,b]<;>omega
theorem uU (x:Addr)(i:Nat):(x.add i).block=x.block:=by unfold Addr.add;split<;>rfl
theorem IsB.nil (w:H)(a:Option Addr):IsB w a []:=fun j b h=>by simp at h
theorem IsB.none_eq {w:H}{c:U}(h:IsB w none c):c=[]:=by
 cases c with|nil=>rfl|cons b c=>{obtain⟨x,hx,_⟩:=h 0 b rfl;cases hx}
theorem IsB.values {w:H}{x:Addr}{d:U}(h:IsB w (some x) d):∀j u,(d.map dE)[j]?=some u->w.cell? (x.add j)=some u:=by
 intro j u c;rw[gk]at c;cases hb:d[j]? with|none=>{rw[hb]at c;cases c}|some b=>{rw[hb]at c;simp at c;subst c;obtain⟨y,hy,e⟩:=h j b hb;cases hy;exact e}
theorem IsB.take {w:H}{a:Option Addr}{d:U}(h:IsB w a d)(n:Nat):IsB w a (d.take n):=by
 intro j b c;rw[f9]at c;split at c;{exact h j b c};{cases c}
theorem IsB.cut {w:H}{a:Option Addr}{c:U}(h:IsB w a c)(l m:Nat)(i:c.length<=m):IsB w (if m=l then a else a.map (·.add l)) (c.drop l):=by
 intro j b d;rw[jz]at d;have g:l+j<c.length:=by{rcases ak (l+j) c.length with e|e;{exact e};{rw[ew e]at d;cases d}};obtain⟨x,rfl,f⟩:=h (l+j) b d;rw[ae (by omega)];exact⟨x.add l,rfl,by rw[xV x l j];exact f⟩
theorem IsB.kept {S:Nat->Prop}{w w':H}{a:Option Addr}{bs:U}(h:IsB w a bs)(k:aD S w w')(f:∀x,a=some x->bs≠[]->¬S x.block):IsB w' a bs:=by
 intro j b c;obtain⟨x,hx,d⟩:=h j b c;exact⟨x,hx,k.cell d (by rw[uU];exact f x hx (by intro e;subst e;simp at c))⟩
theorem IsB.lt {w:H}{x:Addr}{c:U}(h:IsB w (some x) c)(d:c≠[]):x.block<w.heap.size:=by
 cases c with|nil=>exact absurd rfl d|cons b c=>{obtain⟨y,hy,e⟩:=h 0 b rfl;cases hy;have:=dx w _ e;rw[uU]at this;exact this}
theorem IsB.of_heap {w:H}{g:Nat}{arr:U}{E:TypeId}{d:Nat × Nat}(h:w.heap[g]?=some (.cells (arr.map dE).toArray E d))(o:Nat):IsB w (some ⟨g,o,none⟩) (arr.drop o):=by
 intro j b c;refine⟨_,rfl,?_⟩;have e:(⟨g,o,none⟩:Addr).add j=⟨g,o+j,none⟩:=by{unfold Addr.add;split<;>simp_all};rw[e,au w g (o+j) _ _ _ h];rw[jz]at c;simp[c]
section
variable {P:Program} {w:H} {ops:Array Oper} {rest:List Oper} {o:Oper} {a:Act} {Q:Exit->Act->H->Prop}
theorem aF3 (k:Nat):madeCells (Value.int .u8 0).cells (k*1)=((List.replicate k (0:UInt8)).map dE).toArray:=by
 apply qp.1;rw[show(Value.int .u8 0).cells=#[Value.int .u8 0]from rfl,toList_madeCells_one];simp[dE]
def iA (w:H)(base:Nat)(E:TypeId)(a:Option Addr)(c:Nat)(bs:U):Prop :=
 w.ownsRow base E 1 (.slice a bs.length c) bs.length (bs.map dE)
theorem iA.nil (w:H)(base:Nat)(E:TypeId):iA w base E none 0 []:=qq w base E 1
theorem iA.isB {base:Nat}{E:TypeId}{x:Option Addr}{c:Nat}{bs:U}(h:iA w base E x c bs):IsB w x bs:=by
 intro j b d;rcases h.2 with⟨i,l⟩|⟨g,cap,k,i,q,n,v,r,t,p⟩;{obtain rfl:bs=[]:=fj l;simp at d};{simp only[ce]at i;obtain⟨rfl,_,rfl⟩:=i;refine⟨_,rfl,?_⟩;have m:(⟨g,0,none⟩:Addr).add j=⟨g,j,none⟩:=by{unfold Addr.add;split<;>simp_all};rw[m,au w g j k E (0,0) n];have u:j<bs.length:=by{rcases ak j bs.length with e|e;{exact e};{rw[ew e]at d;cases d}};have f:(k.toList.take (bs.length*1))[j]?=some (dE b):=by{rw[p];simp[d]};rw[f9]at f;rw[af (by omega)]at f;simpa using f}
theorem iA.cap {base:Nat}{E:TypeId}{x:Option Addr}{c:Nat}{d:U}(h:iA w base E x c d):d.length<=c/\c<=maxLen:=by
 rcases h.2 with⟨b,j⟩|⟨g,cap,i,b,k,m,f,e,l,n⟩;{simp only[ce]at b;obtain⟨_,h1,rfl⟩:=b;exact⟨by omega,by unfold maxLen;omega⟩};{simp only[ce]at b;obtain⟨_,_,rfl⟩:=b;exact⟨f,e⟩}
theorem iA.at {base:Nat}{E:TypeId}{x:Option Addr}{c:Nat}{b:U}(h:iA w base E x c b):∀y,x=some y->base<=y.block/\y.block<w.heap.size:=by
 intro y d;subst d;exact h.lt y.block rfl
theorem iA.kept {S:Nat->Prop}{w':H}{base:Nat}{E:TypeId}{x:Option Addr}{c:Nat}{bs:U}(h:iA w base E x c bs)(k:aD S w w')(f:∀y,x=some y->¬S y.block):iA w' base E x c bs:=by
 refine⟨h.1,?_⟩;rcases h.2 with e|⟨g,cap,cur,hv,hb,d,rest⟩;{exact .inl e};{have b:=hv;simp only[ce]at b;exact .inr ⟨g,cap,cur,hv,hb,k.heap d (f _ b.1),rest⟩}
theorem aBc (base:Nat)(t h e:TypeId)(i:TypeInfo)(b:P.underlying t=some (.slice e))(hi:P.info? e=some i)
  (v:Value) (n c:Nat) (j:List Value) (f:w.ownsRow base e 1 v n j) :
  (Builtin.append_ #[t,t] h #[v,.slice none 0 c]).run P w=.ok v w:=by
 rcases f.2 with⟨rfl,rfl⟩|⟨g,cap,k,rfl,_,_,d,_⟩;{simp[Builtin.append_,run_underlying b,sizeOf,typeInfo,hi,Builtin.lenOf,Builtin.firstCells]};{simp[Builtin.append_,run_underlying b,sizeOf,typeInfo,hi,Builtin.lenOf,Builtin.firstCells,d,storeCells]}
theorem aIP {K:Act->H->Prop}(s x:Operand)(t:TypeId)
  (u:o.op=.call { callee:=.builtin .append,args:=#[s,x],argTypes:=#[t,t] })
  (base:Nat) (E:TypeId) (i:TypeInfo) (C:P.underlying t=some (.slice E)) (hi:P.info? E=some i) (hz:i.zero=some (.int .u8 0))
  (V:i.size=1) (J:i.bytes=1)
  (b:Option Addr) (n c:Nat) (d:U) (z:a.eval s=.slice b n c) (S:d.length=n) (l:iA w base E b c d)
  (p:Option Addr) (m sc:Nat) (cs:U) (hx:a.eval x=.slice p m sc) (R:cs.length=m) (A:IsB w p cs)
  (ac:n+m<=140737488355328) (F:base<=w.heap.size)
  (h:∀e c' w',G (iA w' base E e c' (d++cs))->aD (fun k=>b.map (·.block)=some k) w w'->(∀y,e=some y->b.map (·.block)=some y.block\/w.heap.size<=y.block) ->
   K (a.put o.dst (.slice e (n+m:Nat) c')) w'):o.wp P a w K Q:=by
 subst S;subst R;cases p with
 | none =>
  have f:=A.none_eq;subst f;have T:=aBc (P:=P) (w:=w) base t o.type E i C hi (.slice b d.length c) d.length sc _ l;unfold Oper.wp;have W:a.eval x=.slice none 0 sc:=by simpa using hx
  simp[execOp,u,resolve,invoke,builtin,z,W,T,Result.andThen];have:=h b c w (show iA _ _ _ _ _ _ by simpa using l) (aD.refl _ _) (fun y X=>.inl (by subst X;rfl));simp only[db,gw]at this;exact this
 | some y =>
  obtain⟨v',w',hr,v,M,ad,q⟩:=run_append_own_at (P:=P) w base t o.type E i (.int .u8 0) 1 1 C hi hz V J rfl (by decide) (.slice b d.length c) d.length _ l y cs.length sc (cs.map dE) (by simp) A.values (aD4 cs)
   (by unfold maxLen;omega) (by omega) F
  unfold Oper.wp execOp;simp only[u,resolve,invoke,builtin,mu,mv,qr,qt,cg,fa,z,hx,hr];clear hr;have L:∃e c',v'=.slice e (d.length+cs.length) c':=by
   rcases v.2 with⟨rfl,f⟩|⟨g,cap,ab,rfl,_⟩
   ·exact⟨none,0,by rw[f]⟩
   ·exact⟨_,_,rfl⟩
  obtain⟨e,c',rfl⟩:=L;have r:(Value.slice b d.length c).ownBlock=b.map (·.block):=by cases b<;>rfl
  have D:aD (fun k=>b.map (·.block)=some k) w w':=by
   refine(aD.of_grownBy M).mono ?_;intro k _ N;rw[<-r];exact N.symm
  refine h e c' w' (show iA _ _ _ _ _ _ by unfold iA;simpa using v) D ?_;intro y' aa;subst aa;rw[r]at q
  rcases q with j|j
  ·left;rw[<-j];rfl
  ·right;have:y'.block=w.heap.size:=by simpa [Value.ownBlock]using j
   omega
theorem aDb (A:o.guard=none)(s x:Operand)(t:TypeId)
  (F:o.op=.call { callee:=.builtin .append,args:=#[s,x],argTypes:=#[t,t] })
  (base:Nat) (E:TypeId) (i:TypeInfo) (N:P.underlying t=some (.slice E)) (hi:P.info? E=some i) (R:i.zero=some (.int .u8 0))
  (L:i.size=1) (v:i.bytes=1)
  (b:Option Addr) (n c:Nat) (e:U) (K:a.eval s=.slice b n c) (D:e.length=n) (J:iA w base E b c e)
  (g:Option Addr) (m j:Nat) (cs:U) (hx:a.eval x=.slice g m j) (C:cs.length=m) (M:IsB w g cs)
  (z:n+m<=140737488355328) (u:base<=w.heap.size)
  (h:∀d f w',G (iA w' base E d f (e++cs))->aD (fun k=>b.map (·.block)=some k) w w'->(∀y,d=some y->b.map (·.block)=some y.block\/w.heap.size<=y.block) ->
   wpList P ops Q rest (a.put o.dst (.slice d (n+m:Nat) f)) w'):wpList P ops Q (o :: rest) a w :=
 iq A fun _ r=>aIP s x t F base E i N hi R L v b n c e K D J g m j cs hx C M z u fun d f w' l p q=>r _ _ (h d f w' l p q)
end
theorem qK {P:Program}(w:H)(f E e:TypeId)(i:P.underlying f=some (.slice E))(g:P.underlying E=some (.int .u8))(hd:P.underlying e=some .string)
  (x:Option Addr) (d:U) (n c:Nat) (k:d.length=n) (h:IsB w x d):(convert f e (.slice x n c)).run P w=.ok (.string ⟨d.toArray⟩) w:=by
 subst k;cases x with|none=>{obtain rfl:=h.none_eq;exact run_convert_bytes_nil w f E i g 0 c e hd}|some y=>{have j:(loadCells y d.length).run P w=.ok ((d.map fun b=>(b.toNat:Int)).map (Value.int .u8)).toArray w:=by{have:=run_loadCells_list (P:=P) w y (d.map dE) h.values;simpa [show dE=fun b=>Value.int .u8 b.toNat from rfl,Function.comp_def]using this};rw[run_convert_bytes_string w f e E _ d.length c i g hd,run_bytesToString w _ d.length c _ j,foldl_push_bytes];simp[Function.comp_def,ByteArray.empty,ByteArray.emptyWithCapacity];rfl}
open Go.RowKit
def kZ (s:Dec.Dc):List Value:=s.D.map dE++[.int .i64 s.nd,.int .i64 s.dp,.bool s.neg,.bool s.trunc]
structure aC (w:H) (B:Nat) (s:Dec.Dc):Prop where
 h:w.heap[B]?=some (.cells (kZ s).toArray 234 (0,0))
 len:s.D.length=800
section
variable {w:H} {B:Nat} {s:Dec.Dc}
theorem aC.byte (h:aC w B s)(i:Nat)(hi:i<s.D.length):w.cell? ⟨B,i,none⟩=some (.int .u8 (s.D[i].toNat:Nat)):=by
 rw[au w B i _ _ _ h.h];unfold kZ;rw[kf,jf,af (by rw[dc];exact hi),gk,bc hi];rfl
theorem aC.tail (h:aC w B s)(j:Nat):w.cell? ⟨B,800+j,none⟩=[Value.int .i64 s.nd,.int .i64 s.dp,.bool s.neg,.bool s.trunc][j]?:=by
 rw[au w B _ _ _ _ h.h];unfold kZ;rw[kf,jf,ae (by rw[dc,h.len];omega),dc,h.len,show 800+j-800=j by omega]
theorem aC.nd (h:aC w B s):w.cell? ⟨B,800,none⟩=some (.int .i64 s.nd):=h.tail 0
theorem aC.dp (h:aC w B s):w.cell? ⟨B,801,none⟩=some (.int .i64 s.dp):=h.tail 1
theorem aC.neg (h:aC w B s):w.cell? ⟨B,802,none⟩=some (.bool s.neg):=h.tail 2
theorem aC.trunc (h:aC w B s):w.cell? ⟨B,803,none⟩=some (.bool s.trunc):=h.tail 3
theorem aC.fz (h:aC w B s)(j:Nat):w.frozen? ⟨B,j,none⟩=false:=oy w B j _ _ h.h
theorem aC.lt (h:aC w B s):B<w.heap.size:=(dq.1 h.h).1
theorem aC.same {w':H}(h:aC w B s)(e:w'.heap=w.heap):aC w' B s:=⟨by rw[e];exact h.h,h.len⟩
theorem aC.drewN (h:aC w B s)(n:Nat):aC (w.drewN n) B s:=h.same rfl
theorem aC.kept {w':H}{S:Nat->Prop}(h:aC w B s)(k:aD S w w')(b:¬S B):aC w' B s:=⟨k.heap h.h b,h.len⟩
theorem aC.setByte (h:aC w B s)(i:Nat)(hi:i<800)(c:UInt8)(v:Int)(b:v=(c.toNat:Nat)):aC (w.setCell ⟨B,i,none⟩ (.int .u8 v)) B { s with D:=s.D.set i c }:=by
 subst b;refine⟨?_,by rw[mw];exact h.len⟩;rw[ir _ _ _ _ _ _ h.h];congr 2;apply qp.1;unfold kZ;rw[qw,List.set_append,af (by rw[dc,h.len];exact hi)];simp only[List.map_set];rfl
theorem lA (s b:Dec.Dc)(c:s.D.length=800)(d:b.D=s.D)(j:Nat)(v:Value)
  (h:[Value.int .i64 s.nd,.int .i64 s.dp,.bool s.neg,.bool s.trunc].set j v=[Value.int .i64 b.nd,.int .i64 b.dp,.bool b.neg,.bool b.trunc]) :
  (kZ s).toArray.setIfInBounds (800+j) v=(kZ b).toArray:=by
 apply qp.1;unfold kZ;rw[qw,List.set_append,ae (by rw[dc,c];omega),dc,c,show 800+j-800=j by omega,h,d]
theorem aC.setNd (h:aC w B s)(n:Nat):aC (w.setCell ⟨B,800,none⟩ (.int .i64 n)) B { s with nd:=n } :=
 ⟨by rw[ir _ _ _ _ _ _ h.h,lA s { s with nd:=n } h.len rfl 0 _ rfl],h.len⟩
theorem aC.setNdV (h:aC w B s)(n:Nat)(v:Int)(b:v=(n:Nat)):aC (w.setCell ⟨B,800,none⟩ (.int .i64 v)) B { s with nd:=n }:=by
 subst b;exact h.setNd n
theorem aC.setDpV (h:aC w B s)(n v:Int)(b:v=n):aC (w.setCell ⟨B,801,none⟩ (.int .i64 v)) B { s with dp:=n }:=by
 subst b;exact⟨by rw[ir _ _ _ _ _ _ h.h,lA s { s with dp:=v } h.len rfl 1 _ rfl],h.len⟩
theorem aC.setDp (h:aC w B s)(n:Int):aC (w.setCell ⟨B,801,none⟩ (.int .i64 n)) B { s with dp:=n } :=
 ⟨by rw[ir _ _ _ _ _ _ h.h,lA s { s with dp:=n } h.len rfl 1 _ rfl],h.len⟩
theorem aC.setNeg (h:aC w B s)(b:Bool):aC (w.setCell ⟨B,802,none⟩ (.bool b)) B { s with neg:=b } :=
 ⟨by rw[ir _ _ _ _ _ _ h.h,lA s { s with neg:=b } h.len rfl 2 _ rfl],h.len⟩
theorem aC.setTr (h:aC w B s)(b:Bool):aC (w.setCell ⟨B,803,none⟩ (.bool b)) B { s with trunc:=b } :=
 ⟨by rw[ir _ _ _ _ _ _ h.h,lA s { s with trunc:=b } h.len rfl 3 _ rfl],h.len⟩
end
def aLf (B:Nat)(s:Dec.Dc)(w:H)(e:Ending)(w':H):Prop:=e=.returned (.tuple #[])/\aC w' B (Dec.trimD s)/\aD (· = B) w w'
theorem aBj (B:Nat)(s:Dec.Dc)(w:H)(h:aC w B s)(N:s.nd<=800) :
  Y 287 #[.pointer (some ⟨B,0,none⟩)] w (aLf B s w):=by
 have x:=Z h;have L:=Z h.len;clear h;go_enter Tryz.func287,Tryz.ntmps287;go_wp2_with fail;go_loopg [] s.nd (fun g wr=>∃k:Nat,g=k/\k<=s.nd/\aC wr B { s with nd:=k }/\Dec.trimL (s.D.take k)=Dec.trimL (s.D.take s.nd)/\aD (· = B) w wr);case atStart=>exact⟨s.nd,rfl,ah _,x.o,rfl,aD.refl _ _⟩
 case round =>obtain⟨k,v,E,hd,p,m⟩:=hrel;have y:=Z v;clear v;have K:=hd.fz 800;have M:=hd.fz 801;have J:wr.cell? ⟨B,801,none⟩=some (.int .i64 s.dp):=hd.dp;have f:=Z hd;have l:=Z p;have j:=Z m;by_cases t:k=0;{subst t;have z:wr.cell? ⟨B,800,none⟩=some (.int .i64 0):=hd.nd;clear hd p m E;go_wp2_with fail;go_quiet (fail);go_wp2;go_end0;have q:Dec.trimL (s.D.take s.nd)=0:=l.o.symm;have e:Dec.trimD s={ ({ s with nd:=0 }:Dec.Dc)with dp:=0 }:=by{unfold Dec.trimD;rw[q,af rfl]};refine⟨rfl,?_,(j.o.drewN _).setCell _ _ (fun _=>rfl)⟩;rw[e];exact(f.o.drewN _).setDp 0};{obtain⟨i,rfl⟩:∃i,k=i+1:=⟨k-1,by omega⟩;have hi:i<s.D.length:=by{rw[L.o];omega};have z:wr.cell? ⟨B,800,none⟩=some (.int .i64 ((i:Int)+1)):=by{have:=hd.nd;simpa using this};have A:wr.cell? ⟨B,i,none⟩=some (.int .u8 (s.D[i].toNat:Nat)):=hd.byte i hi;obtain⟨c,n⟩:∃c,s.D[i]=c:=⟨_,rfl⟩;rw[n]at A;have u:s.D[i]?=some c:=by{rw[bc hi,n]};have r:=Z u;have R:i<800:=by{omega};clear hd p m n u hi t;by_cases b:c=48;{have C:((c.toNat:Int)==48)=true:=by{rw[b];rfl};have d:=Z b;clear b;have F:IntKind.i64.wrap ((i:Int)+1-1)=i:=by{rw[IntWalk.i64_in _ (by omega)];omega};go_wp2_with fail;go_quiet (fail);go_wp2;go_roundg i;(case measure=>have:=y.o;omega);case rel=>exact⟨i,rfl,by omega,(f.o.drewN _).setNd i,(Dec.trimL_take s.D i c r.o d.o).symm.trans l.o,(j.o.drewN _).setCell _ _ (fun _=>rfl)⟩};{have C:((c.toNat:Int)==48)=false:=ai.2 (by intro e;exact b (de.1 (by show _=48;omega)));have d:=Z b;clear b;have F:IntKind.i64.wrap ((i:Int)+1-1)=i:=by{rw[IntWalk.i64_in _ (by omega)];omega};go_wp2_with fail;go_quiet (fail);go_wp2;go_end0;have q:Dec.trimL (s.D.take s.nd)=i+1:=l.o.symm.trans (Dec.trimL_stop s.D i c r.o d.o);have e:Dec.trimD s={ s with nd:=i+1 }:=by{unfold Dec.trimD;rw[q,ae (by omega)]};refine⟨rfl,?_,j.o.drewN _⟩;rw[e];exact f.o.drewN _}}
open Go.RowKit
def mL (l:U):List Nat:=l.map UInt8.toNat
theorem yL (l:U)(k:Nat)(c:UInt8)(h:l[k]?=some c):(mL l).drop k=c.toNat :: (mL l).drop (k+1):=by
 obtain⟨b,e⟩:=fc.1 h;unfold mL;rw[<-List.map_drop,<-List.map_drop,dt b,e];rfl
theorem aFm (l:U)(k:Nat)(h:l.length<=k):(mL l).drop k=[]:=dy (by unfold mL;rw[dc];exact h)
theorem wM {a b:Bool}(h:a=b):Ending.returned (.bool a)=.returned (.bool b):=by rw[h]
theorem aKf (B n c:Nat)(d:Dec.Dc)(s:I)(w:H)(h:aC w B d)(S:n<=800)(_hs:s.size<=1000) :
  Y 296 #[.slice (some ⟨B,0,none⟩) n c,.string s] w fun e w'=>e=.returned (.bool (Dec.less (mL (d.D.take n)) (mL s.data.toList)))/\∃m,w'=w.drewN m:=by
 have E:=Z h;have L:=Z h.len;obtain⟨r,hr⟩:∃r,Dec.less (mL (d.D.take n)) (mL s.data.toList)=r:=⟨_,rfl⟩
 have J:=Z hr;rw[hr];clear h hr;go_enter Tryz.func296,Tryz.ntmps296
 go_wp2_with fail
 go_loopw [5] (fun i wr=>∃k m:Nat,k<=s.size/\i=.int .i64 k/\Dec.less ((mL (d.D.take n)).drop k) ((mL s.data.toList).drop k)=r/\wr=w.drewN m) (fun i _=>s.size-(intOf i).toNat)
 case atStart=>exact⟨0,0,bb _,rfl,J.o,rfl⟩
 case round =>
  obtain⟨k,m,R,rfl,z,x⟩:=hrel;have F:G (aC wr B d):=by rw[x];exact E.o.drewN m
  have p:=Z x;have l:=Z z;clear x z;by_cases C:k<s.size
  ·by_cases N:k<n
   ·have v:k<d.D.length:=by rw[L.o];omega
    have K:wr.cell? ⟨B,k,none⟩=some (.int .u8 (d.D[k].toNat:Nat)):=F.o.byte k v;obtain⟨b,u⟩:∃b,d.D[k]=b:=⟨_,rfl⟩
    rw[u]at K
    have y:(d.D.take n)[k]?=some b:=by rw[f9,af N,bc v,u]
    have g:s.data.toList[k]?=some s[k]:=by rw[bc (by simpa using C)];rfl
    have j:=Z (yL _ _ _ y);have f:=Z (yL _ _ _ g);clear y g u v;by_cases q:b.toNat=s[k].toNat
    ·have M:((b.toNat:Int) !=(s[k].toNat:Int))=false:=ii.2 (by omega);have t:=Z q;clear q;go_wp2_with fail
     go_quiet (fail)
     go_wp2
     go_roundw
     case measure=>simp[intOf];omega
     case rel =>
      refine⟨k+1,m+nq,by omega,by go_num,?_,?_⟩
      ·rw[<-l.o,j.o,f.o];show _=(if b.toNat=s[k].toNat then _ else _)
       rw[af t.o]
      ·rw[p.o,qx]
    ·have M:((b.toNat:Int) !=(s[k].toNat:Int))=true:=ct.2 (by omega);have t:=Z q;clear q;go_wp2_with fail
     go_quiet (fail)
     go_wp2_with fail
     go_quiet (fail)
     go_wp2
     go_ret;refine⟨wM ?_,_,by rw[p.o,qx,qx]⟩;rw[<-l.o,j.o,f.o];show _=(if b.toNat=s[k].toNat then _ else _)
     rw[ae t.o]
   ·have A:(d.D.take n).length<=k:=by rw[bu];omega
    have j:=Z (aFm _ _ A);have g:s.data.toList[k]?=some s[k]:=by rw[bc (by simpa using C)];rfl
    have f:=Z (yL _ _ _ g);clear g A;go_wp2
    go_ret;refine⟨wM ?_,m,p.o⟩;rw[<-l.o,j.o,f.o];rfl
  ·have f:=Z (aFm s.data.toList k (by show s.size<=k;omega));go_wp2
   go_ret;refine⟨wM ?_,m,p.o⟩;rw[<-l.o,f.o];cases (mL (d.D.take n)).drop k<;>rfl
theorem aHX (x y:List Nat):Dec.less (x.map (· + 48)) (y.map (· + 48))=Dec.less x y:=by
 induction x generalizing y with|nil=>{cases y<;>rfl}|cons a x ih=>{cases y with|nil=>rfl|cons b y=>{show(if a+48=b+48 then _ else _)=(if a=b then _ else _);by_cases h:a=b;{rw[af (by omega),af h];exact ih y};{rw[ae (by omega),ae h];by_cases g:a<b;{rw[bt g,bt (show a+48<b+48 by omega)]};{rw[bo g,bo (show ¬a+48<b+48 by omega)]}}}}
theorem aMk (s:Dec.Dc)(h:Dec.Fine s):mL (s.D.take s.nd)=(Dec.dgs s.D s.nd).map (· + 48):=by
 unfold mL Dec.dgs;rw[oz];refine o8 fun c b=>?_;have:=h.dig c b;show c.toNat=Dec.un c+48;unfold Dec.un;omega
theorem aJa:∀k<61,k≠0->(Pinned.cheatRows.getD k (0,[])).1=Dec.more k/\mL (Pinned.cheatRows.getD k (0,[])).2=(Dec.cut k).map (· + 48)/\(Pinned.cheatRows.getD k (0,[])).2.length<=60:=by decide +kernel
