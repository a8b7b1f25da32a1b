/-
policy.Holds of the least pages.
-/
import Derived.Test.YtcfgbdhpcboikaaGreatDoorValueX
namespace Go.Proofs.YtcfgbdhpcboikaaGreatDoor
set_option maxRecDepth 100000
open Go.RowKit
structure aEC (w:H) (gh oh gm om cm ga oa ca gb ob cb:Nat) (a':Option Addr) (n' c':Nat):Prop where
 hd:Six w gh oh (.int .i64 1) (.int .i64 0) (.string ⟨#[104,101,97,100]⟩) (.slice none 0 0) (.string ⟨#[]⟩) (.slice (some ⟨gm,om,none⟩) 1 cm)
 bd:Six w gh (oh+6) (.int .i64 1) (.int .i64 0) (.string ⟨#[98,111,100,121]⟩) (.slice none 0 0) (.string ⟨#[]⟩) (.slice (some ⟨gb,ob,none⟩) 1 cb)
 mt:Six w gm om (.int .i64 1) (.int .i64 0) (.string ⟨#[109,101,116,97]⟩) (.slice (some ⟨ga,oa,none⟩) 1 ca) (.string ⟨#[]⟩) (.slice none 0 0)
 at':Two w ga oa (.string ⟨#[99,104,97,114,115,101,116]⟩) (.string ⟨#[117,116,102,45,56]⟩)
 kid:Six w gb ob (.int .i64 1) (.int .i64 0) (.string ⟨#[98]⟩) (.slice none 0 0) (.string ⟨#[]⟩) (.slice a' n' c')
theorem aEC.below {w w':H}{B k q l r g i n e j p f:Nat}{d:Option Addr}{m c':Nat}(h:aEC w k q l r g i n e j p f d m c')(c:Below B w w')(b:w.heap.size<=B):aEC w' k q l r g i n e j p f d m c' :=
 ⟨h.hd.below c b,h.bd.below c b,h.mt.below c b,h.at'.below c b,h.kid.below c b⟩
open Go.RowKit
def aRe (kd sp:Int)(tx:I):Bool:=decide (kd=1)&&(decide (sp=0)&&tx.data.toList.isEmpty)
def aQZ (kd sp:Int)(nm tx:I)(na nk:Nat):Bool:=decide (kd=2)&&(decide (sp=0)&&(nm.data.toList.isEmpty&&(decide (na=0)&&(decide (nk=0)&&(!tx.data.toList.isEmpty&&decide (dK tx=tx))))))
open Go.RowKit
section
variable {P:Program} {w:H} {ops:Array Oper} {rest:List Oper} {o:Oper} {a:Act} {Q:Exit->Act->H->Prop}
theorem aFM (T E:TypeId)(d:P.underlying T=some (.slice E))(i:TypeInfo)(hi:P.info? E=some i)(w:H)(x:Option Addr)(n c:Nat)(b:n<=c) :
  (Instr.slice T (.slice x n c) none (some (.int .i64 n)) (some (.int .i64 n))).run P w=.ok (.slice x n n) w:=by
 simp[Instr.slice,run_underlying d,Instr.sliceBounds,run_sliceBound,sizeOf,typeInfo,hi,b,Addr.add]
theorem aDP (w:H)(e:TypeId)(cap:Nat)(n:Nat)(b:List Value)(zs:Array Value) :
  jT (w.drew.alloc (.cells (b.toArray++zs) e)) (.slice (some ⟨w.heap.size,0,none⟩) n cap) n b/\Below w.heap.size w (w.drew.alloc (.cells (b.toArray++zs) e)):=by
 refine⟨⟨_,_,rfl,fun j u c=>⟨_,_,rfl,?_⟩⟩,?_⟩;{show(w.drew.alloc (.cells (b.toArray++zs) e)).cell? ⟨w.drew.heap.size,0+j,none⟩=some u;rw[bw,au _ _ j (b.toArray++zs) e (0,0) (cc w.drew _)];have d:j<b.length:=(fc.1 c).1;rw[li (by simpa using d)];simpa using c};{exact(am w.heap.size w).drew.alloc (ah _) _}
theorem zT (ab:o.guard=none)(s x:Operand)(t:TypeId)
  (ho:o.op=.call { callee:=.builtin .append,args:=#[s,x],argTypes:=#[t,t] })
  (e:TypeId) (i:TypeInfo) (z:Value) (D:Nat) (L:P.underlying t=some (.slice e)) (hi:P.info? e=some i) (M:i.zero=some z) (B:i.size=1) (X:i.bytes=D)
  (v:Value) (n:Nat) (d:List Value) (hs:a.eval s=v) (hv:∃y,v=.slice y n n) (F:jT w v n d) (hl:d.length=n) (u:Value)
  (f:Addr) (c:Nat) (hx:a.eval x=.slice (some f) 1 c) (ad:w.cell? f=some u) (V:(n+1)*D<=140737488355328) (hn:n<=1000000000)
  (h:∀v' w',G (jT w' v' (n+1) (d++[u]))->G (∃y c,v'=.slice y (n+1) c/\n+1<=c)->G (Below w.heap.size w w')->wpList P ops Q rest (a.put o.dst v') w'):wpList P ops Q (o :: rest) a w:=by
 refine iq ab fun K S=>?_
 obtain⟨y,rfl⟩:=hv;have J:∀j q,[u][j]?=some q->w.cell? (f.add j)=some q:=by
  intro j q k;match j,k with
  | 0,k =>
   simp at k;subst k;simpa [Addr.add]using ad
 have ao:∃v' w',(Builtin.append_ #[t,t] o.type #[.slice y n n,.slice (some f) 1 c]).run P w=.ok v' w'/\jT w' v' (n+1) (d++[u])/\(∃y c,v'=.slice y (n+1) c/\n+1<=c)/\Below w.heap.size w w':=by
  subst X;cases y with
  | none =>
   have ac:n=0:=by
    rcases gp n with E|E
    ·exact E
    ·obtain⟨N,R,l,A⟩:=F;obtain⟨g,C,r,_⟩:=A 0 _ (bc (by omega));simp only[ce]at l;rw[<-l.1]at r
     cases r
   subst ac;have an:d=[]:=fj hl;subst an;have hr:=run_append_nil (P:=P) (w:=w) t o.type e i z L hi M f 1 c [u] (by simp[B]) J (by omega) (by omega) (by omega);obtain⟨m,p⟩:=aDP w e (grownCap w 1 0 e) 1 [u] (Builtin.zeroCells z.cells (grownCap w 1 0 e-1));exact⟨_,_,hr,m,⟨_,_,rfl,sj w 1 0 e⟩,p⟩
  | some b =>
   have al:∀j q,d[j]?=some q->w.cell? (b.add j)=some q:=by
    obtain⟨N,R,l,A⟩:=F;intro j q k;obtain⟨g,C,r,hc⟩:=A j q k;simp only[ce]at l;rw[<-l.1]at r
    cases r;have T:(⟨g,C,none⟩:Addr).add j=⟨g,C+j,none⟩:=by unfold Addr.add;split<;>simp_all
    rw[T];exact hc
   have hr:=run_append_grow (P:=P) (w:=w) t o.type e i z L hi M b n n d (by rw[B];omega) al f 1 c [u] (by simp[B]) J (by omega) (by omega) (growslice_fits (by omega) V);obtain⟨m,p⟩:=aDP w e (grownCap w (n+1) n e) (n+1) (d++[u]) (Builtin.zeroCells z.cells (grownCap w (n+1) n e-(n+1)));refine⟨_,_,hr,?_,⟨_,_,rfl,sj w (n+1) n e⟩,?_⟩
   ·simpa using m
   ·simpa using p
 obtain⟨v',w',hr,m,aa,p⟩:=ao;unfold Oper.wp execOp;simp only[ho,resolve,invoke,builtin,mu,mv,qr,qt,cg,fa,hs,hx,hr];exact S _ _ (h v' w' m aa p)
end
open Go.RowKit
def aNw {H':Type}(enc:TypeId × Value->H')(P:Program)(fn:Func)(s:ChangeSpec)(w:H)(args:Array Value)(fuel:Nat):Bool :=
 match DataW.whole enc P w fn.params.toList s.vars false args.toList fuel with
 | some x=>Rows.uptoSmall H' (x.1++x.2.1)
 | none=>false
theorem aJR {H':Type}{enc:TypeId × Value->H'}{C:Checked}{os:Os}{f:FuncId}{fn:Func}{s:ChangeSpec}{again:Bool}{X:H->Array Value->Prop}
  (A:∀(w w':H) (b:Array Value),w.heap=w'.heap->X w b->X w' b)
  (own:ownKnob C.prog.godebug=none) (ac:os.Started) (ab:C.prog.inits.idxOf? f=none) (D:C.prog.funcs[f]?=some fn)
  (d:H) (c:Array Value) (r:Nat) (M:d.os=os)
  (R:(d.forCall (fun _ _=>0) ⟨#[],c,[]⟩).Shaped C.prog)
  (u:Input.okWideB C.prog (d.forCall (fun _ _=>0) ⟨#[],c,[]⟩) f ⟨#[],c,[]⟩=true)
  (l:aNw enc C.prog fn s (d.forCall (fun _ _=>0) ⟨#[],c,[]⟩).memory c r=true)
  (T:s.sizedB enc C.prog fn false (d.forCall (fun _ _=>0) ⟨#[],c,[]⟩).memory c r=true)
  (hx:X (d.forCall (fun _ _=>0) ⟨#[],c,[]⟩).memory c)
  (y:∀(W:H) (base:Nat) (b:Array Value) (g k:List (DataW H')) (m:List MemPlace),
   (∀(j:Nat) t v,fn.params[j]?=some t->b[j]?=some v->Value.okWide C.prog W .any base t v) ->
   DataW.Whole enc C.prog fn.params.toList s.vars false W b.toList g k m->Rows.uptoBulkAll (g++k)<=1048576->X W b->W.ShapedOpen C.prog ->
   Calls C.prog f b W fun e q=>∃v,e=.returned v/\s.post enc C.prog fn false true false again W b v q) (F:Stop.Interp) :
  ReturnsInHanded {} C os f .any (fun w b=>((Rows.OpenSpec.upto s).pre enc C.prog fn [] false w b/\X w b)/\sizedMet enc C.prog fn (Rows.OpenSpec.upto s) false w b) (((Rows.OpenSpec.upto s).at F).post enc C.prog fn false true false again):=by
 refine returnsInHanded_of_calls own ac ab ?_ ?_
 ·refine⟨d,fun _ _=>0,⟨#[],c,[]⟩,M,R,(uo (base:=0) u).1,(uo u).2,⟨⟨?_,hx⟩,sizedMet_of_sizedB T⟩,?_⟩
  ·unfold aNw at l;split at l
   ·rename_i x p;exact(OpenSpec.pre_some (s:=Rows.OpenSpec.upto s) rfl [] false _ _).2 ⟨x.1,x.2.1,x.2.2,DataW.Whole_of_whole p,rfl,l⟩
   ·cases l
  ·simp[Assume.holds]
 ·intro w tape i _ S _ L N _;obtain⟨_,_,_,z,E,_,_,_,_,V⟩:=L;obtain rfl:z=fn:=cy (E.symm.trans D);obtain⟨⟨n,aa⟩,_⟩:=N;obtain⟨g,k,m,p,_,K⟩:=(OpenSpec.pre_some (s:=Rows.OpenSpec.upto s) rfl [] false _ _).1 n;have J:Rows.uptoBulkAll (g++k)<=1048576:=br K;have:=y (w.forCall tape i) _ i.args g k m V (DataW.Whole.of_heap (w':=w.forCall tape i) (by rfl) p) J (A _ _ _ (by rfl) aa) S;exact this.mono fun e q h=>by
   obtain⟨v,B,n⟩:=h;subst B;exact ChangeSpec.post_blind n
open Go.ChangeShapes Go.WideShapes Go.ChangeAt Go.RowKit
section
variable {H':Type} {enc:TypeId × Value->H'} {P:Program} {w:H} {base:Nat} {spare:Nat->Bool} {held:Bool}
theorem aF5 {t:TypeId}{c d e f g i:Field}{q:Nat}{cs:List Value}{x:DataW H' × List MemPlace}(s:P.underlying t=some (.struct #[c,d,e,f,g,i]))(h:DataW.trod enc P w base spare held q t cs=some x) :
  ∃j k l m p y5 n,x.1=.agg [j.1,k.1,l.1,m.1,p.1,y5.1]/\cs.length=P.cellsOf t/\DataW.trod enc P w base spare held n c.type ((cs.drop c.offset).take (P.cellsOf c.type))=some j /\
   DataW.trod enc P w base spare held n d.type ((cs.drop d.offset).take (P.cellsOf d.type))=some k/\DataW.trod enc P w base spare held n e.type ((cs.drop e.offset).take (P.cellsOf e.type))=some l /\
   DataW.trod enc P w base spare held n f.type ((cs.drop f.offset).take (P.cellsOf f.type))=some m/\DataW.trod enc P w base spare held n g.type ((cs.drop g.offset).take (P.cellsOf g.type))=some p /\
   DataW.trod enc P w base spare held n i.type ((cs.drop i.offset).take (P.cellsOf i.type))=some y5:=by
 obtain⟨u,n,_,rfl,r,hlen,b⟩:=DataW.trod_struct s h;match u,hlen with
 | [j,k,l,m,p,y5],_=>exact⟨j,k,l,m,p,y5,n,by simp,r,by simpa using b 0 c rfl,by simpa using b 1 d rfl,by simpa using b 2 e rfl,by simpa using b 3 f rfl,by simpa using b 4 g rfl,by simpa using b 5 i rfl⟩
end
def qM:List AT->Nat
 | []=>0
 | x :: l=>1+x.1.size+x.2.size+qM l
mutual
def Nd.bk:Nd->Nat
 | .mk _ _ nm at' tx ks=>2+nm.size+tx.size+qM at'+fL ks
def fL:List Nd->Nat
 | []=>0
 | k :: ks=>k.bk+fL ks
end
theorem zK (s:I):s.data.toList.length=s.size:=rfl
variable {H':Type} {enc:TypeId × Value->H'} {W:H}
theorem qV (D:Nat->DataW H'):∀(m k:Nat),k<m->Rows.uptoBulkAll ((List.range' k (m-k)).map D)=Rows.uptoBulk (D k)+Rows.uptoBulkAll ((List.range' (k+1) (m-(k+1))).map D):=by
 intro m k h;rw[show m-k=(m-(k+1))+1 by omega,List.range'_succ];rfl
theorem aLx (d:DataW H'):1<=Rows.uptoBulk d:=by
 cases d with|lit l=>{cases l<;>simp[Rows.uptoBulk]}|_=>simp[Rows.uptoBulk]
theorem aDG {a:Addr}{n:Nat}{cs:List Value}{b:Nat}(h:W.cells? b a n=some cs)(f:0<n):a.spot=none:=by
 obtain⟨_,e,d⟩:=sk h;have c:=d 0 (by omega);rw[bc (by omega)]at c;simpa [Addr.add]using World.cell?_spot c
theorem aLr {cs:List Value}{y:DataW H' × List MemPlace}{n:Nat}(h:DataW.trod enc Tryz.prog W 0 (fun _=>true) true n 33 cs=some y) :
  ∃v l,cs=[v]/\dZ W v l/\qM l<=Rows.uptoBulk y.1:=by
 rcases Go.Deep.open_slice Tryz.underlying33 h with⟨rfl,rfl⟩|⟨x,len,cap,m,n',D,Pl,rfl,_,hl,hm,E,rfl,r⟩;{exact⟨_,[],rfl,⟨none,0,rfl,fun j c=>absurd c (by simp)⟩,by simp[qM]⟩}
 ·simp only[ed]at E;subst E;have N:Tryz.prog.cellsOf 39=2:=by{kernel_rfl};rw[N]at r;have L:Tryz.prog.cellsOf 9=1:=by{kernel_rfl};have S:0<len->x.spot=none:=fun h0=>by{obtain⟨p,h1,_⟩:=r 0 (by omega);have:=aDG h1 (by omega);simpa [Addr.add]using this}
  have T:∀j,j<len->x.spot=none/\∃q:AT,W.cell? ⟨x.block,x.off+j*2,none⟩=some (.string q.1)/\W.cell? ⟨x.block,x.off+j*2+1,none⟩=some (.string q.2)/\1+q.1.size+q.2.size<=Rows.uptoBulk (D j):=by
   intro j c;obtain⟨p,h1,h2⟩:=r j (by omega);obtain⟨_,R,C⟩:=sk h1;have d:x.spot=none:=S (by omega);obtain⟨y0,y1,k,M,_,F,J⟩:=trod_struct2 Tryz.underlying39 h2;obtain⟨t,v1,rfl⟩:∃t v1,p=[t,v1]:=by
    match p,R with
    | [c0,c1],_=>exact⟨c0,c1,rfl⟩
   rw[L]at F J;have V:DataW.trod enc Tryz.prog W 0 (fun _=>true) true k 9 [t]=some y0:=F;have X:DataW.trod enc Tryz.prog W 0 (fun _=>true) true k 9 [v1]=some y1:=J;obtain⟨s0,z,rfl,_⟩:=p7 Tryz.underlying9 V;obtain⟨s1,A,rfl,_⟩:=p7 Tryz.underlying9 X;simp only[fu,fm]at z A;subst z A;refine⟨d,(s0,s1),?_,?_,?_⟩;{have:=C 0 (by omega);obtain⟨b,o,s⟩:=x;simp only at d;subst d;have e:((⟨b,o,none⟩:Addr).add (j*2)).add 0=⟨b,o+j*2,none⟩:=by{unfold Addr.add;split<;>simp_all};rw[e]at this;exact this};{have:=C 1 (by omega);obtain⟨b,o,s⟩:=x;simp only at d;subst d;have e:((⟨b,o,none⟩:Addr).add (j*2)).add 1=⟨b,o+j*2+1,none⟩:=by{have u:∀o n,(⟨b,o,none⟩:Addr).add n=⟨b,o+n,none⟩:=fun o n=>by{unfold Addr.add;split<;>simp_all};rw[u,u]};rw[e]at this;exact this};{have e:=az Prod.fst M;simp only at e;rw[e];simp only[Rows.uptoBulk,Rows.uptoBulkAll,zK];omega}
  have K:∀k,k<=len->∃l:List AT,l.length=len-k/\(∀j (h:j<l.length),∃g off,some x=some ⟨g,off,none⟩/\W.cell? ⟨g,off+(k+j)*2,none⟩=some (.string (l[j]).1)/\W.cell? ⟨g,off+(k+j)*2+1,none⟩=some (.string (l[j]).2))/\qM l<=Rows.uptoBulkAll ((List.range' k (len-k)).map D):=by{intro k hk;obtain⟨i,hi⟩:=ex (len-k);induction i generalizing k with|zero=>{exact⟨[],by simp;omega,fun j c=>absurd c (by simp),by simp[qM]⟩}|succ i ih=>{obtain⟨l,h1,h2,B⟩:=ih (k+1) (by omega) (by omega);obtain⟨d,q,q1,q2,q3⟩:=T k (by omega);refine⟨q :: l,by simp;omega,?_,?_⟩;{intro j c;cases j with|zero=>{refine⟨x.block,x.off,?_,q1,q2⟩;obtain⟨b,o,s⟩:=x;simp only at d;rw[d]}|succ j=>{obtain⟨g,off,e,c1,f⟩:=h2 j (by simpa using c);rw[show k+1+j=k+(j+1) by omega]at c1 f;exact⟨g,off,e,c1,f⟩}};{rw[qV D len k (by omega)];unfold qM;omega}}};obtain⟨l,h1,h2,B⟩:=K 0 (bb _);refine⟨_,l,rfl,⟨some x,_,by rw[h1,np],fun j c=>?_⟩,?_⟩;{obtain⟨g,off,e,c1,f⟩:=h2 j c;rw[bw]at c1 f;exact⟨g,off,e,c1,f⟩};{rw[np,<-uq]at B;simp only[Rows.uptoBulk];omega}
theorem aLl:∀l:List AT,l.length<=qM l:=by
 intro l;induction l with|nil=>exact ah _|cons x l ih=>{unfold qM;simp;omega}
theorem aLm:∀(l:List AT) (x:AT),x∈l->x.1.size+x.2.size<=qM l:=by
 intro l;induction l with|nil=>{intro x h;simp at h}|cons y l ih=>{intro x h;unfold qM;rcases b9.1 h with rfl|h;{omega};{have:=ih x h;omega}}
theorem aPC (n:Nd):1<=n.bk:=by cases n;unfold Nd.bk;omega
theorem aDf:∀ks:List Nd,ks.length<=fL ks:=by
 intro ks;induction ks with|nil=>exact ah _|cons k ks ih=>{unfold fL;have:=aPC k;simp;omega}
theorem aI7 (D:Nat->DataW H'):∀(m k j:Nat),k<=j->j<m->Rows.uptoBulk (D j)<=Rows.uptoBulkAll ((List.range' k (m-k)).map D):=by
 intro m k j c b;obtain⟨i,hi⟩:=ex (j-k);induction i generalizing k with|zero=>{obtain rfl:k=j:=by{omega};rw[qV D m k b];omega}|succ i ih=>{rw[qV D m k (by omega)];have:=ih (k+1) (by omega) (by omega);omega}
def aEB (H':Type)(enc:TypeId × Value->H')(W:H)(m:Nat):Prop :=
 ∀(cs:List Value) (y:DataW H' × List MemPlace) (n:Nat),Rows.uptoBulk y.1<=m->DataW.trod enc Tryz.prog W 0 (fun _=>true) true n 45 cs=some y ->
  ∃c0 c1 c2 c3 c4 c5 nd,cs=[c0,c1,c2,c3,c4,c5]/\bJ W nd (.agg #[c0,c1,c2,c3,c4,c5])/\nd.bk<=Rows.uptoBulk y.1
def aEA (H':Type)(enc:TypeId × Value->H')(W:H)(m:Nat):Prop :=
 ∀(cs:List Value) (y:DataW H' × List MemPlace) (n:Nat),Rows.uptoBulk y.1<=m->DataW.trod enc Tryz.prog W 0 (fun _=>true) true n 43 cs=some y ->
  ∃a c ks,cs=[.slice a ks.length c]/\aQ W a 0 ks/\fL ks<=Rows.uptoBulk y.1/\ks.length<=c
theorem aJZ (m:Nat)(hm:m<=1048576)(F:∀q,q<m->aEA H' enc W q):aEB H' enc W m:=by
 intro cs y n hy h;obtain⟨y0,y1,y2,y3,y4,y5,k,C,l,t,u,v,x,z,A⟩:=aF5 Tryz.underlying45 h;have E:Tryz.prog.cellsOf 45=6:=by{kernel_rfl};rw[E]at l
 obtain⟨e,v1,v2,b,f,d,rfl⟩:∃e v1 v2 b f d,cs=[e,v1,v2,b,f,d]:=by
  match cs,l with
  | [c0,c1,c2,c3,c4,c5],_=>exact⟨c0,c1,c2,c3,c4,c5,rfl⟩
 have J:Tryz.prog.cellsOf 3=1:=by{kernel_rfl};have M:Tryz.prog.cellsOf 9=1:=by{kernel_rfl};have K:Tryz.prog.cellsOf 33=1:=by{kernel_rfl};have L:Tryz.prog.cellsOf 43=1:=by{kernel_rfl};rw[J]at t u;rw[M]at v z;rw[K]at x;rw[L]at A;have N:DataW.trod enc Tryz.prog W 0 (fun _=>true) true k 3 [e]=some y0:=t;have R:DataW.trod enc Tryz.prog W 0 (fun _=>true) true k 3 [v1]=some y1:=u;have S:DataW.trod enc Tryz.prog W 0 (fun _=>true) true k 9 [v2]=some y2:=v;have T:DataW.trod enc Tryz.prog W 0 (fun _=>true) true k 33 [b]=some y3:=x;have V:DataW.trod enc Tryz.prog W 0 (fun _=>true) true k 9 [f]=some y4:=z;have X:DataW.trod enc Tryz.prog W 0 (fun _=>true) true k 43 [d]=some y5:=A;obtain⟨z0,g,_,_⟩:=sr Tryz.underlying3 N;obtain⟨z1,i,_,_⟩:=sr Tryz.underlying3 R;obtain⟨r,j,rfl,_⟩:=p7 Tryz.underlying9 S;obtain⟨ad,at',e3,B,aa⟩:=aLr T;obtain⟨s,e4,rfl,_⟩:=p7 Tryz.underlying9 V;have hb:Rows.uptoBulk y.1=Rows.uptoBulk y0.1+(Rows.uptoBulk y1.1+(r.size+1+(Rows.uptoBulk y3.1+(s.size+1+(Rows.uptoBulk y5.1+0)))))+1:=by{rw[C];simp only[Rows.uptoBulk,Rows.uptoBulkAll,zK]};obtain⟨a,c,p,e5,D,ab,_⟩:=F (Rows.uptoBulk y5.1) (by omega) [d] y5 k (ah _) X;simp only[fu,fm]at g i j e3 e4 e5;subst g i j e3 e4 e5;have ac:=aDf p;refine⟨_,_,_,_,_,_,.mk z0 z1 r at' s p,rfl,?_,?_⟩;{unfold bJ;exact⟨b,a,c,rfl,by omega,B,D⟩};{unfold Nd.bk;have:=aLx y0.1;omega}
theorem aJL (m:Nat)(E:∀p,p<m->aEB H' enc W p):aEA H' enc W m:=by
 intro cs y n C h;rcases Go.Deep.open_slice Tryz.underlying43 h with⟨rfl,rfl⟩|⟨x,len,cap,F,J,D,q,rfl,_,R,_,l,rfl,d⟩;{exact⟨none,0,[],rfl,by unfold aQ;trivial,by unfold fL;omega,ah _⟩};{simp only[ed]at l;subst l;have v:Tryz.prog.cellsOf 45=6:=by{kernel_rfl};rw[v]at d;have B:0<len->x.spot=none:=fun L=>by{obtain⟨e,h1,_⟩:=d 0 (by omega);have:=aDG h1 (by omega);simpa [Addr.add]using this};have M:Rows.uptoBulkAll ((List.range' 0 (len-0)).map D)<Rows.uptoBulk (DataW.slice (List.map D (List.range len)) (List.map (fun j=>D (len+j)) (List.range (F-len)))):=by{rw[np,<-uq];simp only[Rows.uptoBulk];omega};have K:∀j,j<len->x.spot=none/\∃c0 c1 c2 c3 c4 c5 nd,Six W x.block (x.off+j*6) c0 c1 c2 c3 c4 c5/\bJ W nd (.agg #[c0,c1,c2,c3,c4,c5])/\nd.bk<=Rows.uptoBulk (D j):=by{intro j A;obtain⟨e,h1,h2⟩:=d j (by omega);obtain⟨_,hn,z⟩:=sk h1;have c:x.spot=none:=B (by omega);have S:=aI7 D len 0 j (bb _) A;simp only at C;obtain⟨c0,c1,c2,c3,c4,c5,nd,rfl,hN,u⟩:=E (Rows.uptoBulk (D j)) (by omega) e (D j,q j) J (ah _) h2;refine⟨c,c0,c1,c2,c3,c4,c5,nd,?_,hN,u⟩;obtain⟨b,o,s⟩:=x;simp only at c;subst c;have f:∀o n,(⟨b,o,none⟩:Addr).add n=⟨b,o+n,none⟩:=fun o n=>by{unfold Addr.add;split<;>simp_all};have g:∀i (hi:i<6),W.cell? ⟨b,o+j*6+i,none⟩=[c0,c1,c2,c3,c4,c5][i]?:=fun i hi=>by{have:=z i hi;rw[f,f]at this;exact this};exact⟨g 0 (by omega),g 1 (by omega),g 2 (by omega),g 3 (by omega),g 4 (by omega),g 5 (by omega)⟩};have r:∀k,k<=len->∃ks:List Nd,ks.length=len-k/\aQ W (some x) k ks/\fL ks<=Rows.uptoBulkAll ((List.range' k (len-k)).map D):=by{intro k N;obtain⟨i,hi⟩:=ex (len-k);induction i generalizing k with|zero=>{exact⟨[],by simp;omega,by unfold aQ;trivial,by simp[fL]⟩}|succ i ihk=>{obtain⟨ks,h1,h2,t⟩:=ihk (k+1) (by omega) (by omega);obtain⟨c,c0,c1,c2,c3,c4,c5,nd,q1,q2,T⟩:=K k (by omega);refine⟨nd :: ks,by simp;omega,?_,?_⟩;{unfold aQ;refine⟨⟨x.block,x.off,c0,c1,c2,c3,c4,c5,?_,q1,q2⟩,h2⟩;obtain⟨b,o,s⟩:=x;simp only at c;rw[c]};{rw[qV D len k (by omega)];unfold fL;omega}}};obtain⟨ks,h1,h2,t⟩:=r 0 (bb _);refine⟨some x,_,ks,by rw[h1,np],h2,?_,by omega⟩;simp only;omega}
theorem aMo:∀m,m<=1048576->aEB H' enc W m/\aEA H' enc W m:=by
 intro m;induction m using Nat.strongRecOn with|ind m ih=>exact fun c=>⟨aJZ m c (fun b h=>(ih b h (by omega)).2),aJL m (fun b h=>(ih b h (by omega)).1)⟩
theorem aL9 {a:Option Addr}{len cap:Nat}{d:DataW H'}{p:List MemPlace}(h:DataW.Trod enc Tryz.prog W 0 (fun _=>true) true 43 (.slice a len cap) d p)(hd:Rows.uptoBulk d<=1048576) :
  ∃b:List Nd,aQ W a 0 b/\len=b.length/\fL b<=Rows.uptoBulk d:=by
 obtain⟨k,g⟩:=h;obtain⟨i,j,b,e,c,f,_⟩:=(aMo (enc:=enc) (W:=W) _ hd).2 _ _ _ (ah _) g;simp[Value.cells]at e;obtain⟨rfl,rfl,rfl⟩:=e;exact⟨b,c,rfl,f⟩
open Go.RowKit
def aMN:I:=⟨#[99,97,112,116,105,111,110]⟩
abbrev kV:=I->I->I->Option I
def vM (n:Nd):Bool:=aQZ n.kind n.space n.name n.text n.attrs.length n.kids.length
def aRf (n:Nd):Bool:=aRe n.kind n.space n.text
def aQo:Option Nd->Bool
 | some n=>decide (n.kind=2)
 | none=>false
def aEu (VV:kV)(pn:I)(ph:List I)(prev:Option Nd)(k:Nd):Prop :=
 (vM k=true/\mX pn.data.toList=true/\aQo prev=false) \/
 (vM k=false/\aRf k=true/\wF pn.data.toList k.name.data.toList=true/\k.name∉ph/\¬(k.name=aMN/\prev.isSome=true)/\mO (VV k.name) k.attrs k.attrs)
mutual
def aBv (VV:kV):List I->Nd->Prop
 | ph,.mk _ _ nm _ _ ks=>HoldsK VV nm (if aN nm.data.toList=4 then ph++[nm]else ph) none ks
def HoldsK (VV:kV)(pn:I)(ph:List I):Option Nd->List Nd->Prop
 | _,[]=>True
 | prev,k :: ks=>(aEu VV pn ph prev k/\(vM k=false->aBv VV ph k))/\HoldsK VV pn ph (some k) ks
end
def qI (ks:List Nd)(j:Nat):Option Nd:=if j=0 then none else ks[j-1]?
theorem aAB (c:kV)(pn:I)(ph:List I)(b:List Nd)(j:Nat)(h:j<b.length) :
  HoldsK c pn ph (qI b j) (b.drop j)↔(aEu c pn ph (qI b j) b[j]/\(vM b[j]=false->aBv c ph b[j]))/\HoldsK c pn ph (qI b (j+1)) (b.drop (j+1)):=by
 rw[dt h];conv=>lhs;unfold HoldsK
 have:qI b (j+1)=some b[j]:=by{unfold qI;rw[ae (by omega),gg,bc h]};rw[this]
open Go.RowKit
mutual
def SmN:Nd->Prop
 | .mk _ _ nm at' tx ks=>nm.size<=1048576/\tx.size<=100000000/\at'.length<=1048576/\(∀x∈at',x.1.size<=1048576/\x.2.size<=1048576)/\SmK ks
def SmK:List Nd->Prop
 | []=>True
 | n :: ks=>SmN n/\SmK ks
end
theorem SmK.get:∀(b:List Nd) (j:Nat) (h:j<b.length),SmK b->SmN b[j]:=by
 intro b;induction b with|nil=>{intro j h;simp at h}|cons n b ih=>{intro j h c;unfold SmK at c;cases j with|zero=>exact c.1|succ j=>exact ih j (by simpa using h) c.2}
theorem SmN.get {n:Nd}(h:SmN n):n.name.size<=1048576/\n.text.size<=100000000/\n.attrs.length<=1048576/\(∀x∈n.attrs,x.1.size<=1048576/\x.2.size<=1048576)/\SmK n.kids:=by
 cases n;unfold SmN at h;exact h
open Go.RowKit
structure Phr (w:H) (pv:Value) (ph:List I):Prop where
 vec:jT w pv ph.length (ph.map nM)
 cap:∃a c,pv=.slice a ph.length c/\ph.length<=c
theorem Phr.below {w w':H}{B:Nat}{b:Value}{ph:List I}(h:Phr w b ph)(d:Below B w w')(c:w.heap.size<=B):Phr w' b ph:=⟨h.vec.below d c,h.cap⟩
theorem Phr.nil (w:H):Phr w (.slice none 0 0) []:=⟨⟨none,0,rfl,fun j u b=>by simp at b⟩,⟨none,0,rfl,ah _⟩⟩
open Go.RowKit
def aED (VV:kV):Prop:=∀e n v,e.size<=1048576->n.size<=1048576->v.size<=1048576->iM e n v (VV e n v)
structure nY (VV:kV) (ks:List Nd) (nm:I) (ph:List I) (r:Bool) (k:Nat):Prop where
 le:k<=ks.length
 iff:r=true↔HoldsK VV nm ph (qI ks k) (ks.drop k)
theorem nY.start {b:kV}{c:List Nd}{nm:I}{ph:List I}{r:Bool}(h:r=true↔HoldsK b nm ph none c):nY b c nm ph r 0:=⟨bb _,h⟩
theorem nY.done {c:kV}{b:List Nd}{nm:I}{ph:List I}{r:Bool}{k:Nat}(h:nY c b nm ph r k)(d:b.length<=k):r=true:=by
 rw[h.iff,dy d];unfold HoldsK;trivial
theorem nY.no {c:kV}{b:List Nd}{nm:I}{ph:List I}{r:Bool}{k:Nat}(h:nY c b nm ph r k)(d:k<b.length)(e:¬(aEu c nm ph (qI b k) b[k]/\(vM b[k]=false->aBv c ph b[k]))):r=false:=by
 cases hr:r with|false=>rfl|true=>exact absurd ((aAB c nm ph b k d).1 (h.iff.1 hr)).1 e
theorem nY.yes {c:kV}{b:List Nd}{nm:I}{ph:List I}{r:Bool}{k:Nat}(h:nY c b nm ph r k)(d:k<b.length)(e:aEu c nm ph (qI b k) b[k]/\(vM b[k]=false->aBv c ph b[k])):nY c b nm ph r (k+1):=by
 refine⟨d,?_⟩;rw[h.iff,aAB c nm ph b k d];exact⟨fun x=>x.2,fun x=>⟨e,x⟩⟩
theorem bJ.attrs {w:H}{n:Nd}{c d f g i:Value}{a:Option Addr}{m b:Nat}(h:bJ w n (.agg #[c,d,f,.slice a m b,g,i])):dZ w (.slice a m b) n.attrs:=by
 obtain⟨l,k,p,e,j,_,_⟩:=h.get;simp only[ly]at e;have e3:=az (fun x:Array Value=>x[3]?) e;simp at e3;rw[e3];exact j
open Go.RowKit
theorem aNi (n:Nd):n.bk=2+n.name.size+n.text.size+qM n.attrs+fL n.kids:=by
 cases n;conv=>lhs;unfold Nd.bk
 rfl
theorem aBA (n:Nd)(ns:List Nd):fL (n :: ns)=n.bk+fL ns:=by conv=>lhs;unfold fL
theorem iX (n:Nd)(ns:List Nd):SmK (n :: ns)↔SmN n/\SmK ns:=by
 conv=>lhs;unfold SmK
theorem gM:SmK []:=by unfold SmK;trivial
theorem rU (n:Nd):SmN n↔n.name.size<=1048576/\n.text.size<=100000000/\n.attrs.length<=1048576/\(∀x∈n.attrs,x.1.size<=1048576/\x.2.size<=1048576)/\SmK n.kids:=by
 cases n;conv=>lhs;unfold SmN
 exact ia
theorem aEq:(∀n:Nd,n.bk<=1048576->SmN n)/\∀l:List Nd,fL l<=1048576->SmK l:=by
 refine uX (P:=fun n=>n.bk<=1048576->SmN n) (Q:=fun l=>fL l<=1048576->SmK l) ?_ ?_ ?_;{intro n d h;rw[aNi]at h;have b:=aLl n.attrs;refine(rU n).2 ⟨by omega,by omega,by omega,fun x hx=>?_,d (by omega)⟩;have:=aLm n.attrs x hx;omega};{intro _;exact gM};{intro n e b c h;rw[aBA]at h;exact(iX n e).2 ⟨b (by omega),c (by omega)⟩}
open Go.RowKit
