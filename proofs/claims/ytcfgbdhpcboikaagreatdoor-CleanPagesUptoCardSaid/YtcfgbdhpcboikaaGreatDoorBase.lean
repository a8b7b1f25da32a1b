/-
Lemmas on byte slices and frames, over any program: what a copy, an append, a conversion to a string does to slices of bytes. No program in sight.
-/
import Derived.WalkLawsBesides
import Derived.WalkSpells
import Derived.Laws.CopyOwn
import Derived.Laws.AppendOwnNone
import Derived.StillTailTactics
import Derived.Test.YtcfgbdhpcboikaaGreatDoorKinds
import Derived.Test.YtcfgbdhpcboikaaGreatDoorSched
import Derived.Test.YtcfgbdhpcboikaaGreatDoorShelf
namespace Go.Proofs.YtcfgbdhpcboikaaGreatDoor
set_option maxRecDepth 100000
open Go.RowKit
def dW (b:UInt8):Value:=.int .u8 b.toNat
theorem aE2 (cs:U):∀v∈cs.map dW,v.oneCell'=true:=by
 intro v c;obtain⟨b,_,rfl⟩:=ik.1 c;rfl
structure aG (S:Nat->Prop) (w w':H):Prop where
 os:w'.os=w.os
 tape:w'.tape=w.tape
 output:w'.output=w.output
 size:w.heap.size<=w'.heap.size
 block:∀k,k<w.heap.size->¬S k->w'.heap[k]?=w.heap[k]?
theorem aG.refl (S:Nat->Prop)(w:H):aG S w w:=⟨rfl,rfl,rfl,ag _,fun _ _ _=>rfl⟩
theorem aG.trans {S:Nat->Prop}{a b c:H}(h:aG S a b)(k:aG S b c):aG S a c :=
 ⟨k.os.trans h.os,k.tape.trans h.tape,k.output.trans h.output,bg h.size k.size,fun i hi d=>(k.block i (cf hi h.size) d).trans (h.block i hi d)⟩
theorem aG.mono {S S':Nat->Prop}{a b:H}(h:aG S a b)(e:∀k,k<a.heap.size->S k->S' k):aG S' a b :=
 ⟨h.os,h.tape,h.output,h.size,fun k c d=>h.block k c (fun x=>d (e k c x))⟩
theorem aG.trans' {S S':Nat->Prop}{a b c:H}(h:aG S a b)(k:aG S' b c)(e:∀i,i<a.heap.size->S' i->S i):aG S a c :=
 ⟨k.os.trans h.os,k.tape.trans h.tape,k.output.trans h.output,bg h.size k.size,fun i hi d=>(k.block i (cf hi h.size) (fun x=>d (e i hi x))).trans (h.block i hi d)⟩
theorem aG.drew {S:Nat->Prop}{a b:H}(h:aG S a b):aG S a b.drew:=⟨h.os,h.tape,h.output,h.size,h.block⟩
theorem aG.drewN {S:Nat->Prop}{a b:H}(h:aG S a b)(n:Nat):aG S a (b.drewN n):=⟨h.os,h.tape,h.output,h.size,h.block⟩
theorem aG.alloc {S:Nat->Prop}{a b:H}(h:aG S a b)(o:Obj):aG S a (b.alloc o) :=
 h.trans ⟨rfl,rfl,rfl,by simp,fun k c _=>kw b o k c⟩
theorem aG.setCell {S:Nat->Prop}{a b:H}(h:aG S a b)(p:Addr)(v:Value)(d:p.block<a.heap.size->S p.block):aG S a (b.setCell p v) :=
 h.trans' (S':=(· = p.block)) ⟨rfl,rfl,rfl,by simp[World.setCell],fun k _ c=>gu b p k v c⟩ (fun i hi e=>by subst e;exact d hi)
theorem aG.below {S:Nat->Prop}{B:Nat}{w w':H}(h:aG S w w')(c:B<=w.heap.size)(b:∀k,k<w.heap.size->S k->B<=k):Below B w w' :=
 ⟨h.os,h.tape,h.output,h.size,fun k d=>h.block k (by omega) (fun x=>by have:=b k (by omega) x;omega)⟩
theorem aG.of_below {B:Nat}{w w':H}(h:Below B w w'):aG (B<=·) w w' :=
 ⟨h.os,h.tape,h.output,h.size,fun k _ b=>h.block k (by omega)⟩
theorem aG.of_grownBy {w w':H}{row:Option Nat}(h:w.grownBy w' row):aG (fun k=>some k=row) w w' :=
 ⟨h.os,h.tape,h.output,h.size,fun k b c=>h.block k b c⟩
theorem aG.heap {S:Nat->Prop}{w w':H}(h:aG S w w'){k:Nat}{o:Obj}(b:w.heap[k]?=some o)(c:¬S k):w'.heap[k]?=some o :=
 (h.block k (d8.1 b).1 c).trans b
theorem aG.cell {S:Nat->Prop}{w w':H}(h:aG S w w'){p:Addr}{v:Value}(b:w.cell? p=some v)(c:¬S p.block):w'.cell? p=some v :=
 (qy (h.block p.block (ed w p b) c)).trans b
def IsB (w:H)(a:Option Addr)(bs:U):Prop :=
 ∀j b,bs[j]?=some b->∃x,a=some x/\w.cell? (x.add j)=some (dW b)
theorem zX (x:Addr)(i j:Nat):(x.add i).add j=x.add (i+j):=by
 unfold Addr.add;by_cases hi:i=0<;>by_cases b:j=0<;>simp[hi,b]<;>omega
theorem wK (x:Addr)(i:Nat):(x.add i).block=x.block:=by unfold Addr.add;split<;>rfl
theorem IsB.nil (w:H)(a:Option Addr):IsB w a []:=fun j b h=>by simp at h
theorem IsB.none_eq {w:H}{c:U}(h:IsB w none c):c=[]:=by
 cases c with|nil=>rfl|cons b c=>{obtain⟨x,hx,_⟩:=h 0 b rfl;cases hx}
theorem IsB.values {w:H}{x:Addr}{d:U}(h:IsB w (some x) d):∀j u,(d.map dW)[j]?=some u->w.cell? (x.add j)=some u:=by
 intro j u c;rw[gv]at c;cases hb:d[j]? with|none=>{rw[hb]at c;cases c}|some b=>{rw[hb]at c;simp at c;subst c;obtain⟨y,hy,e⟩:=h j b hb;cases hy;exact e}
theorem IsB.take {w:H}{a:Option Addr}{d:U}(h:IsB w a d)(n:Nat):IsB w a (d.take n):=by
 intro j b c;rw[gg]at c;split at c;{exact h j b c};{cases c}
theorem IsB.cut {w:H}{a:Option Addr}{c:U}(h:IsB w a c)(l m:Nat)(i:c.length<=m):IsB w (if m=l then a else a.map (·.add l)) (c.drop l):=by
 intro j b d;rw[kx]at d;have g:l+j<c.length:=by{rcases ak (l+j) c.length with e|e;{exact e};{rw[fi e]at d;cases d}};obtain⟨x,rfl,f⟩:=h (l+j) b d;rw[ac (by omega)];exact⟨x.add l,rfl,by rw[zX x l j];exact f⟩
theorem IsB.kept {S:Nat->Prop}{w w':H}{a:Option Addr}{bs:U}(h:IsB w a bs)(k:aG S w w')(f:∀x,a=some x->bs≠[]->¬S x.block):IsB w' a bs:=by
 intro j b c;obtain⟨x,hx,d⟩:=h j b c;exact⟨x,hx,k.cell d (by rw[wK];exact f x hx (by intro e;subst e;simp at c))⟩
theorem IsB.lt {w:H}{x:Addr}{c:U}(h:IsB w (some x) c)(d:c≠[]):x.block<w.heap.size:=by
 cases c with|nil=>exact absurd rfl d|cons b c=>{obtain⟨y,hy,e⟩:=h 0 b rfl;cases hy;have:=ed w _ e;rw[wK]at this;exact this}
theorem IsB.of_heap {w:H}{g:Nat}{arr:U}{E:TypeId}{d:Nat × Nat}(h:w.heap[g]?=some (.cells (arr.map dW).toArray E d))(o:Nat):IsB w (some ⟨g,o,none⟩) (arr.drop o):=by
 intro j b c;refine⟨_,rfl,?_⟩;have e:(⟨g,o,none⟩:Addr).add j=⟨g,o+j,none⟩:=by{unfold Addr.add;split<;>simp_all};rw[e,aq w g (o+j) _ _ _ h];rw[kx]at c;simp[c]
section
variable {P:Program} {w:H} {ops:Array Oper} {rest:List Oper} {o:Oper} {a:Act} {Q:Exit->Act->H->Prop}
theorem aGX (k:Nat):madeCells (Value.int .u8 0).cells (k*1)=((List.replicate k (0:UInt8)).map dW).toArray:=by
 apply pg.1;rw[show(Value.int .u8 0).cells=#[Value.int .u8 0]from rfl,toList_madeCells_one];simp[dW]
def jE (w:H)(base:Nat)(E:TypeId)(a:Option Addr)(c:Nat)(bs:U):Prop :=
 w.ownsRow base E 1 (.slice a bs.length c) bs.length (bs.map dW)
theorem jE.nil (w:H)(base:Nat)(E:TypeId):jE w base E none 0 []:=qz w base E 1
theorem jE.isB {base:Nat}{E:TypeId}{x:Option Addr}{c:Nat}{bs:U}(h:jE w base E x c bs):IsB w x bs:=by
 intro j b d;rcases h.2 with⟨i,l⟩|⟨g,cap,k,i,q,n,u,r,s,p⟩;{obtain rfl:bs=[]:=fv l;simp at d};{simp only[cg]at i;obtain⟨rfl,_,rfl⟩:=i;refine⟨_,rfl,?_⟩;have m:(⟨g,0,none⟩:Addr).add j=⟨g,j,none⟩:=by{unfold Addr.add;split<;>simp_all};rw[m,aq w g j k E (0,0) n];have t:j<bs.length:=by{rcases ak j bs.length with e|e;{exact e};{rw[fi e]at d;cases d}};have f:(k.toList.take (bs.length*1))[j]?=some (dW b):=by{rw[p];simp[d]};rw[gg]at f;rw[ae (by omega)]at f;simpa using f}
theorem jE.cap {base:Nat}{E:TypeId}{x:Option Addr}{c:Nat}{d:U}(h:jE w base E x c d):d.length<=c/\c<=maxLen:=by
 rcases h.2 with⟨b,j⟩|⟨g,cap,i,b,k,m,f,e,l,n⟩;{simp only[cg]at b;obtain⟨_,h1,rfl⟩:=b;exact⟨by omega,by unfold maxLen;omega⟩};{simp only[cg]at b;obtain⟨_,_,rfl⟩:=b;exact⟨f,e⟩}
theorem jE.at {base:Nat}{E:TypeId}{x:Option Addr}{c:Nat}{b:U}(h:jE w base E x c b):∀y,x=some y->base<=y.block/\y.block<w.heap.size:=by
 intro y d;subst d;exact h.lt y.block rfl
theorem jE.kept {S:Nat->Prop}{w':H}{base:Nat}{E:TypeId}{x:Option Addr}{c:Nat}{bs:U}(h:jE w base E x c bs)(k:aG S w w')(f:∀y,x=some y->¬S y.block):jE w' base E x c bs:=by
 refine⟨h.1,?_⟩;rcases h.2 with e|⟨g,cap,cur,hv,hb,d,rest⟩;{exact .inl e};{have b:=hv;simp only[cg]at b;exact .inr ⟨g,cap,cur,hv,hb,k.heap d (f _ b.1),rest⟩}
theorem aBY (base:Nat)(t h e:TypeId)(i:TypeInfo)(b:P.underlying t=some (.slice e))(hi:P.info? e=some i)
  (v:Value) (n c:Nat) (j:List Value) (f:w.ownsRow base e 1 v n j) :
  (Builtin.append_ #[t,t] h #[v,.slice none 0 c]).run P w=.ok v w:=by
 rcases f.2 with⟨rfl,rfl⟩|⟨g,cap,k,rfl,_,_,d,_⟩;{simp[Builtin.append_,run_underlying b,sizeOf,typeInfo,hi,Builtin.lenOf,Builtin.firstCells]};{simp[Builtin.append_,run_underlying b,sizeOf,typeInfo,hi,Builtin.lenOf,Builtin.firstCells,d,storeCells]}
theorem aJP {K:Act->H->Prop}(s x:Operand)(t:TypeId)
  (u:o.op=.call { callee:=.builtin .append,args:=#[s,x],argTypes:=#[t,t] })
  (base:Nat) (E:TypeId) (i:TypeInfo) (B:P.underlying t=some (.slice E)) (hi:P.info? E=some i) (hz:i.zero=some (.int .u8 0))
  (T:i.size=1) (F:i.bytes=1)
  (b:Option Addr) (n c:Nat) (d:U) (z:a.eval s=.slice b n c) (R:d.length=n) (l:jE w base E b c d)
  (p:Option Addr) (m sc:Nat) (cs:U) (hx:a.eval x=.slice p m sc) (N:cs.length=m) (A:IsB w p cs)
  (ab:n+m<=140737488355328) (D:base<=w.heap.size)
  (h:∀e c' w',G (jE w' base E e c' (d++cs))->aG (fun k=>b.map (·.block)=some k) w w'->(∀y,e=some y->b.map (·.block)=some y.block\/w.heap.size<=y.block) ->
   K (a.put o.dst (.slice e (n+m:Nat) c')) w'):o.wp P a w K Q:=by
 subst R;subst N;cases p with
 | none =>
  have f:=A.none_eq;subst f;have S:=aBY (P:=P) (w:=w) base t o.type E i B hi (.slice b d.length c) d.length sc _ l;unfold Oper.wp;have V:a.eval x=.slice none 0 sc:=by simpa using hx
  simp[execOp,u,resolve,invoke,builtin,z,V,S,Result.andThen];have:=h b c w (show jE _ _ _ _ _ _ by simpa using l) (aG.refl _ _) (fun y W=>.inl (by subst W;rfl));simp only[cu,il]at this;exact this
 | some y =>
  obtain⟨v',w',hr,v,L,ad,q⟩:=run_append_own_at (P:=P) w base t o.type E i (.int .u8 0) 1 1 B hi hz T F rfl (by decide) (.slice b d.length c) d.length _ l y cs.length sc (cs.map dW) (by simp) A.values (aE2 cs)
   (by unfold maxLen;omega) (by omega) D
  unfold Oper.wp execOp;simp only[u,resolve,invoke,builtin,m8,nc,ra,rc,co,fj,z,hx,hr];clear hr;have J:∃e c',v'=.slice e (d.length+cs.length) c':=by
   rcases v.2 with⟨rfl,f⟩|⟨g,cap,aa,rfl,_⟩
   ·exact⟨none,0,by rw[f]⟩
   ·exact⟨_,_,rfl⟩
  obtain⟨e,c',rfl⟩:=J;have r:(Value.slice b d.length c).ownBlock=b.map (·.block):=by cases b<;>rfl
  have C:aG (fun k=>b.map (·.block)=some k) w w':=by
   refine(aG.of_grownBy L).mono ?_;intro k _ M;rw[<-r];exact M.symm
  refine h e c' w' (show jE _ _ _ _ _ _ by unfold jE;simpa using v) C ?_;intro y' X;subst X;rw[r]at q
  rcases q with j|j
  ·left;rw[<-j];rfl
  ·right;have:y'.block=w.heap.size:=by simpa [Value.ownBlock]using j
   omega
theorem aD7 (A:o.guard=none)(s x:Operand)(t:TypeId)
  (D:o.op=.call { callee:=.builtin .append,args:=#[s,x],argTypes:=#[t,t] })
  (base:Nat) (E:TypeId) (i:TypeInfo) (M:P.underlying t=some (.slice E)) (hi:P.info? E=some i) (N:i.zero=some (.int .u8 0))
  (K:i.size=1) (v:i.bytes=1)
  (b:Option Addr) (n c:Nat) (e:U) (J:a.eval s=.slice b n c) (C:e.length=n) (F:jE w base E b c e)
  (g:Option Addr) (m j:Nat) (cs:U) (hx:a.eval x=.slice g m j) (B:cs.length=m) (L:IsB w g cs)
  (z:n+m<=140737488355328) (u:base<=w.heap.size)
  (h:∀d f w',G (jE w' base E d f (e++cs))->aG (fun k=>b.map (·.block)=some k) w w'->(∀y,d=some y->b.map (·.block)=some y.block\/w.heap.size<=y.block) ->
   wpList P ops Q rest (a.put o.dst (.slice d (n+m:Nat) f)) w'):wpList P ops Q (o :: rest) a w :=
 i6 A fun _ r=>aJP s x t D base E i M hi N K v b n c e J C F g m j cs hx B L z u fun d f w' l p q=>r _ _ (h d f w' l p q)
end
theorem rX {P:Program}(w:H)(f E e:TypeId)(i:P.underlying f=some (.slice E))(g:P.underlying E=some (.int .u8))(hd:P.underlying e=some .string)
  (x:Option Addr) (d:U) (n c:Nat) (k:d.length=n) (h:IsB w x d):(convert f e (.slice x n c)).run P w=.ok (.string ⟨d.toArray⟩) w:=by
 subst k;cases x with|none=>{obtain rfl:=h.none_eq;exact run_convert_bytes_nil w f E i g 0 c e hd}|some y=>{have j:(loadCells y d.length).run P w=.ok ((d.map fun b=>(b.toNat:Int)).map (Value.int .u8)).toArray w:=by{have:=run_loadCells_list (P:=P) w y (d.map dW) h.values;simpa [show dW=fun b=>Value.int .u8 b.toNat from rfl,Function.comp_def]using this};rw[run_convert_bytes_string w f e E _ d.length c i g hd,run_bytesToString w _ d.length c _ j,foldl_push_bytes];simp[Function.comp_def,ByteArray.empty,ByteArray.emptyWithCapacity];rfl}
open Go.RowKit
inductive Nd where
 | mk (kind space:Int) (name:I) (attrs:List (I × I)) (text:I) (kids:List Nd)
def Nd.kids:Nd->List Nd|.mk _ _ _ _ _ k=>k
def Nd.kind:Nd->Int|.mk k _ _ _ _ _=>k
def Nd.space:Nd->Int|.mk _ s _ _ _ _=>s
def Nd.name:Nd->I|.mk _ _ n _ _ _=>n
def Nd.attrs:Nd->List (I × I)|.mk _ _ _ a _ _=>a
def Nd.text:Nd->I|.mk _ _ _ _ t _=>t
mutual
def Nd.sz:Nd->Nat
 | .mk _ _ _ _ _ ks=>1+aB ks
def aB:List Nd->Nat
 | []=>0
 | k :: ks=>k.sz+aB ks
end
theorem gJ (n:Nd):1<=n.sz:=by cases n;unfold Nd.sz;omega
theorem aAG:∀(ks:List Nd) (j:Nat) (h:j<ks.length),(ks[j]).sz<=aB ks:=by
 intro ks;induction ks with|nil=>{intro j h;simp at h}|cons k ks ih=>{intro j h;unfold aB;cases j with|zero=>simp|succ j=>{have:=ih j (by simpa using h);simp only[nf];omega}}
theorem rR {P:Nd->Prop}{Q:List Nd->Prop}(h:∀n,Q n.kids->P n)(c:Q [])(i:∀n g,P n->Q g->Q (n :: g)):(∀n,P n)/\∀l,Q l:=by
 have f:∀m,(∀n:Nd,n.sz<=m->P n)/\∀l:List Nd,aB l<=m->Q l:=by{intro m;induction m with|zero=>{refine⟨fun n e=>absurd (gJ n) (by omega),fun l=>?_⟩;cases l with|nil=>{intro _;exact c}|cons k ks=>{intro b;unfold aB at b;exact absurd (gJ k) (by omega)}}|succ m ih=>{have d:∀n:Nd,n.sz<=m+1->P n:=fun n e=>by{refine h n (ih.2 _ ?_);cases n;unfold Nd.sz at e;show aB _<=m;simp only[Nd.kids];omega};refine⟨d,fun l=>?_⟩;induction l with|nil=>{intro _;exact c}|cons k ks ihk=>{intro b;unfold aB at b;exact i k ks (d k (by omega)) (ihk (by omega))}}};exact⟨fun n=>(f n.sz).1 n (ag _),fun l=>(f (aB l)).2 l (ag _)⟩
structure Six (w:H) (g o:Nat) (c0 c1 c2 c3 c4 c5:Value):Prop where
 x0:w.cell? ⟨g,o,none⟩=some c0
 x1:w.cell? ⟨g,o+1,none⟩=some c1
 x2:w.cell? ⟨g,o+2,none⟩=some c2
 x3:w.cell? ⟨g,o+3,none⟩=some c3
 x4:w.cell? ⟨g,o+4,none⟩=some c4
 x5:w.cell? ⟨g,o+5,none⟩=some c5
theorem Six.below {w w':H}{g o B:Nat}{c0 c1 c2 c3 c4 c5:Value}(h:Six w g o c0 c1 c2 c3 c4 c5)(c:Below B w w')(b:w.heap.size<=B):Six w' g o c0 c1 c2 c3 c4 c5:=by
 have d:g<B:=cf (ed w _ h.x0) b;have k:∀f v,w.cell? ⟨g,f,none⟩=some v->w'.cell? ⟨g,f,none⟩=some v:=fun f v e=>by{rw[c.cell (p:=⟨g,f,none⟩) d];exact e};exact⟨k _ _ h.x0,k _ _ h.x1,k _ _ h.x2,k _ _ h.x3,k _ _ h.x4,k _ _ h.x5⟩
def fK (w:H)(v:Value)(l:List (I × I)):Prop :=
 ∃a c,v=.slice a l.length c/\∀j (h:j<l.length),∃g off,a=some ⟨g,off,none⟩/\w.cell? ⟨g,off+j*2,none⟩=some (.string (l[j]).1)/\w.cell? ⟨g,off+j*2+1,none⟩=some (.string (l[j]).2)
theorem fK.below {w w':H}{B:Nat}{v:Value}{l:List (I × I)}(h:fK w v l)(d:Below B w w')(k:w.heap.size<=B):fK w' v l:=by
 obtain⟨a,c,e,h⟩:=h;refine⟨a,c,e,fun j n=>?_⟩;obtain⟨g,q,m,b,i⟩:=h j n;have f:g<B:=cf (ed w _ b) k;exact⟨g,q,m,by rw[d.cell (p:=⟨g,_,none⟩) f];exact b,by rw[d.cell (p:=⟨g,_,none⟩) f];exact i⟩
mutual
def aH (w:H):Nd->Value->Prop
 | .mk kd sp nm at' tx ks,v=>∃av a c,v=.agg #[.int .i64 kd,.int .i64 sp,.string nm,av,.string tx,.slice a ks.length c]/\ks.length<=140737488355328/\fK w av at'/\aW w a 0 ks
def aW (w:H)(a:Option Addr):Nat->List Nd->Prop
 | _,[]=>True
 | i,n :: ks=>(∃g off c0 c1 c2 c3 c4 c5,a=some ⟨g,off,none⟩/\Six w g (off+i*6) c0 c1 c2 c3 c4 c5/\aH w n (.agg #[c0,c1,c2,c3,c4,c5]))/\aW w a (i+1) ks
end
theorem aW.get {w:H}{a:Option Addr}:∀(b:List Nd) (i j:Nat) (h:j<b.length),aW w a i b->∃g d c0 c1 c2 c3 c4 c5,a=some ⟨g,d,none⟩/\Six w g (d+(i+j)*6) c0 c1 c2 c3 c4 c5/\aH w b[j] (.agg #[c0,c1,c2,c3,c4,c5]):=by
 intro b;induction b with|nil=>{intro i j h;simp at h}|cons k b ih=>{intro i j h c;unfold aW at c;cases j with|zero=>exact c.1|succ j=>{have:=ih (i+1) j (by simpa using h) c.2;rw[show i+1+j=i+(j+1) by omega]at this;exact this}}
theorem aBr {w w':H}{B:Nat}(l:Below B w w')(f:w.heap.size<=B):∀m:Nat,(∀(n:Nd) (v:Value),n.sz<=m->aH w n v->aH w' n v)/\(∀(a:Option Addr) (b:List Nd) (i:Nat),aB b<=m->aW w a i b->aW w' a i b):=by
 intro m;induction m with|zero=>{refine⟨fun n v p=>absurd (gJ n) (by omega),fun a b=>?_⟩;induction b with|nil=>{intro i _ h;unfold aW;trivial}|cons k b _=>{intro i d;unfold aB at d;exact absurd (gJ k) (by omega)}}|succ m ih=>{have j:∀(n:Nd) (v:Value),n.sz<=m+1->aH w n v->aH w' n v:=by{intro n v d h;cases n with|mk kd sp nm at' tx b=>{unfold Nd.sz at d;unfold aH at h ⊢;obtain⟨q,a,c,e,hl,ha,r⟩:=h;exact⟨q,a,c,e,hl,ha.below l f,ih.2 a b 0 (by omega) r⟩}};refine⟨j,fun a b=>?_⟩;induction b with|nil=>{intro i _ h;unfold aW;trivial}|cons k b ihk=>{intro i d h;unfold aB at d;unfold aW at h ⊢;obtain⟨⟨g,off,c0,c1,c2,c3,c4,c5,e,h6,p⟩,hr⟩:=h;exact⟨⟨g,off,c0,c1,c2,c3,c4,c5,e,h6.below l f,j k _ (by omega) p⟩,ihk (i+1) (by omega) hr⟩}}
theorem aH.below {w w':H}{B:Nat}{n:Nd}{v:Value}(h:aH w n v)(c:Below B w w')(b:w.heap.size<=B):aH w' n v:=(aBr c b n.sz).1 n v (ag _) h
theorem aW.below {w w':H}{B:Nat}{a:Option Addr}{ks:List Nd}{i:Nat}(h:aW w a i ks)(c:Below B w w')(b:w.heap.size<=B):aW w' a i ks:=(aBr c b (aB ks)).2 a ks i (ag _) h
theorem Six.zero {w:H}{g:Nat}{c0 c1 c2 c3 c4 c5:Value}(h:Six w g 0 c0 c1 c2 c3 c4 c5) :
  w.cell? ⟨g,0,none⟩=some c0/\w.cell? ⟨g,1,none⟩=some c1/\w.cell? ⟨g,2,none⟩=some c2/\w.cell? ⟨g,3,none⟩=some c3/\w.cell? ⟨g,4,none⟩=some c4/\w.cell? ⟨g,5,none⟩=some c5:=⟨h.x0,h.x1,h.x2,h.x3,h.x4,h.x5⟩
theorem aH.get {w:H}{nd:Nd}{v:Value}(h:aH w nd v):∃b a c,v=.agg #[.int .i64 nd.kind,.int .i64 nd.space,.string nd.name,b,.string nd.text,.slice a nd.kids.length c]/\fK w b nd.attrs/\aW w a 0 nd.kids/\nd.kids.length<=140737488355328:=by
 cases nd with|mk kd sp nm at' tx ks=>{unfold aH at h;obtain⟨b,a,c,e,hl,hA,hK⟩:=h;exact⟨b,a,c,e,hA,hK,hl⟩}
theorem kY:∀(ks:List Nd),(∀k∈ks,k.sz<=aB ks)/\ks.length<=aB ks:=by
 intro ks;induction ks with|nil=>exact⟨fun k b=>by simp at b,ax _⟩|cons n ks ih=>{have c:aB (n :: ks)=n.sz+aB ks:=by{conv=>lhs;unfold aB};have d:=gJ n;refine⟨fun k b=>?_,?_⟩;{rcases ce.1 b with h|h;{rw[h];omega};{have:=ih.1 k h;omega}};{rw[c,bw];have:=ih.2;omega}}
theorem dS (n:Nd):n.sz=1+aB n.kids:=by cases n;rfl
theorem aH.cells {w:H}{n:Nd}{c0 c1 c2 c3 c4 c5:Value}(h:aH w n (.agg #[c0,c1,c2,c3,c4,c5])) :
  ∃a b a' b',c0=.int .i64 n.kind/\c1=.int .i64 n.space/\c2=.string n.name/\c3=.slice a n.attrs.length b/\c4=.string n.text/\c5=.slice a' n.kids.length b':=by
 cases n with|mk kd sp nm at' tx ks=>{unfold aH at h;obtain⟨c,a',b',e,_,⟨a,b,rfl,_⟩,_⟩:=h;simp only[lz,pi,gi,gj]at e;obtain⟨rfl,rfl,rfl,rfl,rfl,rfl⟩:=e;exact⟨a,b,a',b',rfl,rfl,rfl,rfl,rfl,rfl⟩}
mutual
def aSU:Nat->Nd->Int->Int
 | 0,_,_=>-1
 | d+1,.mk _ _ _ _ _ ks,left=>aRh d ks (left-1)
def aRh:Nat->List Nd->Int->Int
 | _,[],left=>left
 | d,k :: ks,left=>if left<0 then left else aRh d ks (aSU d k left)
end
open Go.RowKit
open Go.RowKit
theorem aE0 (b:Value)(w:H):Y 182 #[.slice none 0 0,.int .i64 0,.int .i64 0,b] w fun e w'=>e=.returned (.tuple #[])/\w=w':=by
 go_enter Tryz.func182,Tryz.ntmps182;go_wp2;refine rd 1 ?_;rw[re];go_wp2;go_end0;exact⟨rfl,rfl⟩
theorem aPJ (b:Value)(c:Int)(w:H):Y 146 #[.slice none 0 0,.int .i64 0,.int .i64 0,.int .i64 c,b] w fun e w'=>e=.returned (.tuple #[])/\w=w':=by
 go_enter Tryz.func146,Tryz.ntmps146;go_wp2;refine rd 1 ?_;rw[re];go_wp2_with fail;refine(aE0 b w).mono ?_;rintro e w' ⟨rfl,rfl⟩;go_wp2;trace_state;exact fk (v:=.tuple #[]) (by simp[results,Tryz.results146,go_sem]) rfl ⟨rfl,rfl⟩
theorem aNd (w:H):Y 147 #[.int .u64 0] w fun e w'=>e=.returned (.int .i64 0)/\w=w':=by
 go_enter Tryz.func147,Tryz.ntmps147;go_wp2_with fail;refine(Tryz.bits_Len64 0 w (by omega) (by omega)).mono ?_;rintro e w' ⟨rfl,b⟩;subst b;go_wp2;go_ret;exact⟨rfl,rfl⟩
theorem aN0 (b:Value)(w:H):Y 86 #[.slice none 0 0,b] w fun e w'=>e=.returned (.tuple #[])/\w=w':=by
 go_enter Tryz.func86,Tryz.ntmps86;go_wp2_with fail;refine(aNd w).mono ?_;rintro e w' ⟨rfl,rfl⟩;go_wp2_with fail;refine(aPJ b _ w).mono ?_;rintro e w' ⟨rfl,rfl⟩;go_wp2;go_end0;exact⟨rfl,rfl⟩
open Go.RowKit
theorem bR (w:H)(c0 c1 c2 c3 c4 c5:Value):Six (w.alloc (.cells #[c0,c1,c2,c3,c4,c5] 45)) w.heap.size 0 c0 c1 c2 c3 c4 c5:=by
 have h:∀j,(w.alloc (.cells #[c0,c1,c2,c3,c4,c5] 45)).cell? ⟨w.heap.size,j,none⟩=(#[c0,c1,c2,c3,c4,c5]:Array Value)[j]?:=fun j=>aq _ w.heap.size j _ 45 (0,0) (bi w _);exact⟨h 0,h 1,h 2,h 3,h 4,h 5⟩
def sB:I:=⟨#[98]⟩
theorem Tryz.info9:(Tryz.prog.info? 9).map (fun i=>(i.zero,i.size,i.bytes))=some (some (.string ⟨#[]⟩),1,16):=by kernel_rfl
open Go.RowKit
def bF:I:=⟨#[98,111,100,121]⟩
def iN (r:Bool)(w:H)(e:Ending)(w':H):Prop:=e=.returned (.bool r)/\Below w.heap.size w w'
open Go.RowKit
def Two (w:H)(g o:Nat)(c0 c1:Value):Prop:=w.cell? ⟨g,o,none⟩=some c0/\w.cell? ⟨g,o+1,none⟩=some c1
theorem Two.below {w w':H}{g o B:Nat}{c0 c1:Value}(h:Two w g o c0 c1)(b:Below B w w')(d:w.heap.size<=B):Two w' g o c0 c1:=by
 have c:g<B:=cf (ed w _ h.1) d;exact⟨by rw[b.cell (p:=⟨g,_,none⟩) c];exact h.1,by rw[b.cell (p:=⟨g,_,none⟩) c];exact h.2⟩
