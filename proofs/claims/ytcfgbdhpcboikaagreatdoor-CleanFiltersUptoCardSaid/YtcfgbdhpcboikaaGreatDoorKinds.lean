/-
The kinds of elements, by name: the program's table and the document's lists. No program in sight.
-/
import Derived.Test.YtcfgbdhpcboikaaGreatDoorNodes
namespace Go.Proofs.YtcfgbdhpcboikaaGreatDoor
set_option maxHeartbeats 16000000
set_option maxRecDepth 100000
def fD:List (U × Nat):=[([98,111,100,121],14),
 ([100,105,118],2),
 ([98,108,111,99,107,113,117,111,116,101],2),
 ([112],3),
 ([104,49],3),
 ([104,50],3),
 ([104,51],3),
 ([104,52],3),
 ([104,53],3),
 ([104,54],3),
 ([112,114,101],3),
 ([97],4),
 ([98],4),
 ([99,111,100,101],4),
 ([101,109],4),
 ([105],4),
 ([109,101,116,101,114],4),
 ([112,114,111,103,114,101,115,115],4),
 ([115],4),
 ([115,109,97,108,108],4),
 ([115,112,97,110],4),
 ([115,116,114,111,110,103],4),
 ([115,117,98],4),
 ([115,117,112],4),
 ([117],4),
 ([98,114],5),
 ([105,109,103],5),
 ([104,114],6),
 ([111,108],7),
 ([117,108],7),
 ([108,105],8),
 ([116,97,98,108,101],9),
 ([99,97,112,116,105,111,110],10),
 ([116,98,111,100,121],11),
 ([116,102,111,111,116],11),
 ([116,104,101,97,100],11),
 ([116,114],12),
 ([116,100],13),
 ([116,104],13),
 ([97,112,112,108,101,116],1),
 ([97,117,100,105,111],1),
 ([98,97,115,101],1),
 ([98,117,116,116,111,110],1),
 ([99,97,110,118,97,115],1),
 ([101,109,98,101,100],1),
 ([102,114,97,109,101],1),
 ([102,114,97,109,101,115,101,116],1),
 ([104,101,97,100],1),
 ([105,102,114,97,109,101],1),
 ([105,110,112,117,116],1),
 ([108,105,110,107],1),
 ([109,101,116,97],1),
 ([110,111,101,109,98,101,100],1),
 ([110,111,102,114,97,109,101,115],1),
 ([111,98,106,101,99,116],1),
 ([111,112,116,105,111,110],1),
 ([112,97,114,97,109],1),
 ([115,99,114,105,112,116],1),
 ([115,101,108,101,99,116],1),
 ([115,116,121,108,101],1),
 ([116,101,109,112,108,97,116,101],1),
 ([116,101,120,116,97,114,101,97],1),
 ([116,105,116,108,101],1),
 ([118,105,100,101,111],1),
 ([120,109,112],1)]
def cF:List (U):=[[],
 [97,112,112,108,101,116,32,97,117,100,105,111,32,98,97,115,101,32,98,117,116,116,111,110,32,99,97,110,118,97,115,32,101,109,98,101,100,32,102,114,97,109,101,32,102,114,97,109,101,115,101,116,32,104,101,97,100,32,105,102,114,97,109,101,32,105,110,112,117,116,32,108,105,110,107,32,109,101,116,97,32,110,111,101,109,98,101,100,32,110,111,102,114,97,109,101,115,32,111,98,106,101,99,116,32,111,112,116,105,111,110,32,112,97,114,97,109,32,115,99,114,105,112,116,32,115,101,108,101,99,116,32,115,116,121,108,101,32,116,101,109,112,108,97,116,101,32,116,101,120,116,97,114,101,97,32,116,105,116,108,101,32,118,105,100,101,111,32,120,109,112],
 [100,105,118,32,98,108,111,99,107,113,117,111,116,101],
 [112,32,104,49,32,104,50,32,104,51,32,104,52,32,104,53,32,104,54,32,112,114,101],
 [97,32,98,32,99,111,100,101,32,101,109,32,105,32,109,101,116,101,114,32,112,114,111,103,114,101,115,115,32,115,32,115,109,97,108,108,32,115,112,97,110,32,115,116,114,111,110,103,32,115,117,98,32,115,117,112,32,117],
 [98,114,32,105,109,103],
 [104,114],
 [111,108,32,117,108],
 [108,105],
 [116,97,98,108,101],
 [99,97,112,116,105,111,110],
 [116,98,111,100,121,32,116,102,111,111,116,32,116,104,101,97,100],
 [116,114],
 [116,100,32,116,104],
 [98,111,100,121]]
def aN (n:U):Nat:=((fD.find? fun p=>p.1==n).map (·.2)).getD 0
def fS:U->U->List (U)
 | cur,[]=>if cur.isEmpty then []else [cur]
 | cur,c :: l=>if c=32 then (if cur.isEmpty then fS [] l else cur :: fS [] l)else fS (cur++[c]) l
def aAl (l:U):List (U):=fS [] l
def inB (w l:U):Bool:=(aAl l).contains w
def rB (n:U):List (U)->Nat->Nat
 | [],_=>0
 | l :: r,i=>if inB n l then i else rB n r (i+1)
theorem aL4 (n:U)(a:List (U))(i:Nat)(h:∀l∈a,inB n l=false):rB n a i=0:=by
 induction a generalizing i with|nil=>rfl|cons l r ih=>{unfold rB;rw[h l (du ..)];exact ih (i+1) fun x hx=>h x (d7 _ hx)}
theorem wE:∀p∈fD,rB p.1 cF 0=p.2/\aN p.1=p.2:=by decide +kernel
theorem aGo:∀l∈cF,∀w∈aAl l,w∈fD.map (·.1):=by decide +kernel
theorem wD (n:U)(h:n∉fD.map (·.1)):aN n=0:=by
 unfold aN;have:(fD.find? fun p=>p.1==n)=none:=by{rw[List.find?_eq_none];intro p b a;apply h;have e:p.1=n:=by{simpa using a};rw[<-e];exact List.mem_map_of_mem b};rw[this];rfl
theorem aJO (n:U):rB n cF 0=aN n:=by
 by_cases h:n∈fD.map (·.1);{obtain⟨p,hp,rfl⟩:=g9.1 h;rw[(wE p hp).1,(wE p hp).2]};{rw[wD n h,aL4];intro l b;unfold inB;rw[Bool.eq_false_iff];intro a;exact h (aGo l b n (by simpa using a))}
theorem lD (n:U):aN n<=14:=by
 by_cases h:n∈fD.map (·.1);{obtain⟨p,hp,rfl⟩:=g9.1 h;rw[(wE p hp).2];have:∀p∈fD,p.2<=14:=by{decide +kernel};exact this p hp};{rw[wD n h];omega}
def jX (p k:Nat)(same:Bool):Bool :=
 if p=14\/p=2\/p=8\/p=13 then decide (2<=k)&&decide (k<=7)||decide (k=9)
 else if p=3\/p=10 then decide (k=4)||decide (k=5)
 else if p=4 then decide (k=4)&&!same||decide (k=5)
 else if p=7 then decide (k=8)
 else if p=9 then decide (k=10)||decide (k=11)
 else if p=11 then decide (k=12)
 else if p=12 then decide (k=13)
 else false
def sM (p:Nat):Nat :=
 if p=2\/p=8\/p=13\/p=14 then 765 else if p=3\/p=4\/p=10 then 49 else if p=7 then 256 else if p=9 then 3072 else if p=11 then 4096 else if p=12 then 8192 else 0
def aKS (p:Nat):Bool:=decide (p=14\/p=2\/p=8\/p=13\/p=3\/p=10\/p=4)
def wF (p k:U):Bool:=jX (aN p) (aN k) (k==p)
def mX (p:U):Bool:=aKS (aN p)
theorem aMj:∀p<15,∀k<15,∀b:Bool,(b=true->p=k)->(decide (0<k)&&decide (sM p / 2^k%2=1)&&!(decide (k=4)&&b))=jX p k b:=by decide +kernel
theorem aIw:∀p<15,decide (sM p%2=1)=aKS p:=by decide +kernel
open Go.RowKit
def dK (v:I):I:=⟨(bS v.data.toList).toArray⟩
def iO (v:I):I:=⟨(bN v.data.toList).toArray⟩
theorem fF {a b:I}(h:a.data.toList=b.data.toList):a=b:=by
 cases a;cases b;simpa using h
theorem aCy (v:I):(dK v).data.toList=bS v.data.toList:=rfl
theorem rC (v:I):(iO v).data.toList=bN v.data.toList:=rfl
theorem aIx (v:I):dK (dK v)=dK v:=fF (by rw[aCy,aCy,aKX])
theorem aBW (v:I):iO (iO v)=iO v:=fF (by rw[rC,rC,yH])
open Go.RowKit
abbrev cW:=I->List AT->List AT
def bG (t:I):Nd:=.mk 2 0 ⟨#[]⟩ [] t []
def Nd.more (n:Nd)(t:I):Nd:=.mk n.kind n.space n.name n.attrs (n.text++t) n.kids
def eD (out:List Nd)(t:I):List Nd :=
 match out.getLast? with
 | none=>out++[bG t]
 | some x=>if x.kind=2 then out.dropLast++[x.more t]else out++[bG t]
def nE (pn:I)(out:List Nd)(s:I):List Nd :=
 if dK s=⟨#[]⟩\/mX pn.data.toList=false then out else eD out (dK s)
def qP (pn:I)(ph:List I)(out:List Nd)(nm:I):Bool :=
 wF pn.data.toList nm.data.toList&&(if aN nm.data.toList=4 then !Lib.containsS ph nm else if aN nm.data.toList=10 then decide (out=[])else true)
def yT (nm:I)(ph:List I):List I:=if aN nm.data.toList=4 then ph++[nm]else ph
def aBT (nm:I):Prop:=aN nm.data.toList=5\/aN nm.data.toList=6
instance (nm:I):Decidable (aBT nm):=by unfold aBT;exact inferInstance
mutual
def eF (A:cW):I->List I->List Nd->Nd->List Nd
 | pn,ph,out,.mk kd sp nm at' tx ks =>
  if kd=2 then nE pn out tx
  else if kd≠1\/sp≠0\/aN nm.data.toList=1 then out
  else if qP pn ph out nm=true then out++[.mk 1 0 nm (A nm at') ⟨#[]⟩ (if aBT nm then []else aY A nm (yT nm ph) [] ks)]
  else aY A pn ph out ks
def aY (A:cW):I->List I->List Nd->List Nd->List Nd
 | _,_,out,[]=>out
 | pn,ph,out,n :: ns=>aY A pn ph (eF A pn ph out n) ns
end
def bB (A:cW)(pn:I)(ph:List I)(l:List Nd):List Nd:=if aBT pn then []else aY A pn (yT pn ph) [] l
theorem nU (A:cW)(pn:I)(ph:List I)(out:List Nd)(n:Nd):eF A pn ph out n =
  if n.kind=2 then nE pn out n.text
  else if n.kind≠1\/n.space≠0\/aN n.name.data.toList=1 then out
  else if qP pn ph out n.name=true then out++[.mk 1 0 n.name (A n.name n.attrs) ⟨#[]⟩ (bB A n.name ph n.kids)]
  else aY A pn ph out n.kids:=by
 cases n;conv=>lhs;unfold eF
 rfl
theorem iQ (A:cW)(pn:I)(ph:List I)(out:List Nd):aY A pn ph out []=out:=by unfold aY;rfl
theorem kN (A:cW)(pn:I)(ph:List I)(out:List Nd)(n:Nd)(ns:List Nd):aY A pn ph out (n :: ns)=aY A pn ph (eF A pn ph out n) ns:=by
 conv=>lhs;unfold aY
theorem aEc (A:cW)(pn:I)(ph:List I):∀(a b out:List Nd),aY A pn ph out (a++b)=aY A pn ph (aY A pn ph out a) b:=by
 intro a;induction a with|nil=>{intro b out;rw[d8,iQ]}|cons n a ih=>{intro b out;rw[dw,kN,kN,ih]}
theorem kW (out:List Nd)(x:Nd)(t:I):eD (out++[x]) t=if x.kind=2 then out++[x.more t]else out++[x]++[bG t]:=by
 unfold eD;rw[List.getLast?_append];simp
def elN (nm:I)(ks:List Nd):Nd:=.mk 1 0 nm [] ⟨#[]⟩ ks
mutual
def aQS (f:U->U):Nd->U
 | .mk kd _ _ _ tx ks=>(if kd=2 then f tx.data.toList else [])++aKY f ks
def aKY (f:U->U):List Nd->U
 | []=>[]
 | n :: ns=>aQS f n++aKY f ns
end
def aHu (l:List Nd):Prop:=∀x∈l,x.kind=2->x.kids=[]
theorem aHu.add {out:List Nd}(h:aHu out)(t:I):aHu (eD out t):=by
 unfold eD;have a:(bG t).kind=2->(bG t).kids=[]:=fun _=>rfl;split;{intro x hx;rcases cu.1 hx with hx|hx;{exact h x hx};{rw[fh.1 hx];exact a}};{rename_i y b;split;{intro x hx;rcases cu.1 hx with hx|hx;{exact h x (List.dropLast_subset _ hx)};{rw[fh.1 hx];exact h y (List.mem_of_getLast? b)}};{intro x hx;rcases cu.1 hx with hx|hx;{exact h x hx};{rw[fh.1 hx];exact a}}}
open Go.RowKit
structure gY (s:I) (k n:Nat) (a:Act):Prop where
 size:a.tmps.size=n
 word:a.tmps[k]?=some (.string s)
 defers:a.defers=[]
theorem gY.put {s:I}{k n:Nat}{a:Act}(h:gY s k n a)(t:Nat)(v:Value)(b:t≠k):gY s k n (a.put (some t) v) :=
 ⟨by simp[Act.put,h.size],by simp[Act.put,b,h.word],h.defers⟩
theorem gY.eval {s:I}{k n:Nat}{a:Act}(h:gY s k n a):a.eval (.tmp k)=.string s:=by
 simp[Act.eval,Array.getD_eq_getD_getElem?,h.word]
theorem sI {a:Act}{t:Nat}{v:Value}(h:t<a.tmps.size):(a.put (some t) v).eval (.tmp t)=v:=by
 simp[Act.eval,Act.put,Array.getD_eq_getD_getElem?,h]
theorem aLC {P:Program}{Q:Exit->Act->H->Prop}{w:H}(T B:TypeId)(s c:I)(k n b d:Nat)(A:b≠k)(C:d≠k)(y:b<n)(z:d<n)
  {D:Nat} {p1 p2:String} {q g:Array Edge} {a:Act} (f:gY s k n a)
  (h:∀e,gY s k n e->e.eval (.tmp d)=.bool (s.toList==c.toList)->Q .normal e w) :
  (Code.region D #[{ dst:=some b,op:=Op.binOp BinOp.eql T (Operand.tmp k) (Operand.const (Value.string c)) T,type:=B,pos:=p1,after:=q,guard:=none },
   { dst:=some d,op:=Op.assign (Operand.tmp b),type:=B,pos:=p2,after:=g,guard:=none }] false).wp P Q a w:=by
 have i:=f.put b (.bool (s.toList==c.toList)) A;have j:=sI (a:=a) (t:=b) (v:=.bool (s.toList==c.toList)) (by rw[f.size];exact y);have r:=i.put d (.bool (s.toList==c.toList)) C;have m:=sI (a:=a.put (some b) (.bool (s.toList==c.toList))) (t:=d) (v:=.bool (s.toList==c.toList)) (by rw[i.size];exact z);have ev:=f.eval;have p:a.eval (.const (.string c))=.string c:=rfl;refine px (l:=[_,_]) ?_;refine iq rfl fun K u=>?_
 have hx:=u _ _ (iq (P:=P) (w:=w) (rest:=[]) (o:={ dst:=some d,op:=Op.assign (Operand.tmp b),type:=B,pos:=p2,after:=g,guard:=none }) (a:=a.put (some b) (.bool (s.toList==c.toList))) rfl fun E x=>by
  have:=x _ _ (pz (h _ r m));unfold Oper.wp;simp[execOp,j,Oper.upon];exact this)
 unfold Oper.wp;simp[execOp,eqGuard,ev,p,binOp_string_eql,Oper.upon];exact hx
theorem aAQ {P:Program}{Q:Exit->Act->H->Prop}{w:H}(T:TypeId)(s c:I)(k n:Nat)(o:(s.toList==c.toList)=false)
  {B:TypeId} {e f:Nat} {p:Nat} {p1 p2:String} {g i:Array Edge} {a:Act} (m:gY s k n a) (d:(e !=k&&f !=k&&decide (e<n)&&decide (f<n))=true)
  (h:∀b,gY s k n b->b.eval (.tmp f)=.bool false->Q .normal b w) :
  (Code.region p #[{ dst:=some e,op:=Op.binOp BinOp.eql T (Operand.tmp k) (Operand.const (Value.string c)) T,type:=B,pos:=p1,after:=g,guard:=none },
   { dst:=some f,op:=Op.assign (Operand.tmp e),type:=B,pos:=p2,after:=i,guard:=none }] false).wp P Q a w:=by
 simp only[bp,ct,ne_eq,bi]at d;exact aLC T B s c k n e f d.1.1.1 d.1.1.2 d.1.2 d.2 m fun b j l=>h b j (by rw[l,o])
theorem aAw {P:Program}{Q:Exit->Act->H->Prop}{w:H}{s:I}{k n:Nat}{B:TypeId}{t:Nat}{v:Value}{m:Nat}{p1:String}{g:Array Edge}{a:Act}(d:gY s k n a)(c:(t !=k&&decide (t<n))=true)
  (h:∀b,gY s k n b->b.eval (.tmp t)=v->Q .normal b w) :
  (Code.region m #[{ dst:=some t,op:=Op.assign (Operand.const v),type:=B,pos:=p1,after:=g,guard:=none }] false).wp P Q a w:=by
 simp only[bp,ct,ne_eq,bi]at c;have i:=d.put t v c.1;have e:=sI (a:=a) (t:=t) (v:=v) (by rw[d.size];exact c.2);have f:a.eval (.const v)=v:=rfl;refine px (l:=[_]) ?_;refine iq rfl fun K j=>?_
 have hx:=j _ _ (pz (h _ i e));unfold Oper.wp;simp[execOp,f,Oper.upon];exact hx
theorem aHC {P:Program}{Q:Exit->Act->H->Prop}{w:H}{s:I}{k n:Nat}{B:TypeId}{t:Nat}{i:Nat}{p1:String}{e:Array Edge}{a:Act}(b:gY s k n a)(d:decide (t<n)=true)
  (h:∀c,gY s t n c->Q .normal c w) :
  (Code.region i #[{ dst:=some t,op:=Op.move (Operand.tmp k),type:=B,pos:=p1,after:=e,guard:=none }] false).wp P Q a w:=by
 simp only[bi]at d;have ev:=b.eval;have f:gY s t n (a.put (some t) (.string s)):=⟨by simp[Act.put,b.size],by simp[Act.put,b.size,d],b.defers⟩
 refine px (l:=[_]) ?_;refine iq rfl fun K g=>?_
 have hx:=g _ _ (pz (h _ f));unfold Oper.wp;simp[execOp,ev,Oper.upon];exact hx
theorem mY {next:Act->H->Prop}{Q:Exit->Act->H->Prop}{a:Act}{w:H}(h:next a w):Exit.then next Q .normal a w:=h
theorem xY {b:Nat}{Q:Exit->Act->H->Prop}{a:Act}{w:H}(h:Q .normal a w):Exit.inBlock b Q .normal a w:=h
theorem aGd (s:I)(m:Nat):gY s 0 (m+1) { tmps:=#[Value.string s]++Array.replicate m undef,defers:=[] } :=
 ⟨by simp;omega,by rw[li (by simp)];rfl,rfl⟩
open Go.RowKit
theorem aF2 (a:I):∀(k i:Nat) (r:U),a.size-i=k->ByteArray.toList.loop a i r=r.reverse++a.data.toList.drop i:=by
 intro k;induction k with|zero=>{intro i r h;rw[ByteArray.toList.loop,ae (by omega)];have b:a.data.toList.length=a.size:=by{simp};rw[dy (by omega),eh]}|succ k ih=>{intro i r h;have b:a.data.toList.length=a.size:=by{simp};rw[ByteArray.toList.loop,af (by omega),ih _ _ (by omega)];rw[dt (i:=i) (by omega)];have e:a.get! i=a.data.toList[i]'(by omega):=by{unfold ByteArray.get!;have:i<a.data.size:=by{simpa using (by omega:i<a.size)};exact ib a.data i this};rw[e];simp}
theorem toList_data (a:I):a.toList=a.data.toList:=by
 unfold ByteArray.toList;rw[aF2 a _ 0 [] rfl];simp
def KW (p:U × Nat):Prop:=∀w:H,Y 24 #[.string ⟨p.1.toArray⟩] w fun e w'=>e=.returned (.int .i64 (p.2:Nat))/\w=w'
theorem aMa:∀p∈fD,KW p:=by
 unfold fD;repeat' (first|exact List.forall_mem_nil _|refine List.forall_mem_cons.2 ⟨?_,?_⟩)
 all_goals (unfold KW;intro w;dsimp only;go_enter Tryz.func24,Tryz.ntmps24;go_wp2;go_ret;exact⟨rfl,rfl⟩)
open Go.RowKit
theorem aGC {P:Program}{a:Func}{t:Nat}{c:Array Value}{v:Value}(w:H)(h:a.results=#[.tmp t])(b:c.getD t undef=v):(results a c).run P w=.ok v w:=by
 unfold results;rw[h];rw[jp]at b;simp[b]
theorem aJN (s:I)(d:∀l:U,(fD.map (·.1)).contains l=true->(s.toList==(⟨l.toArray⟩:I).toList)=false)(w:H):Y 24 #[.string s] w fun e w'=>e=.returned (.int .i64 0)/\w=w':=by
 refine calls_of_wp Tryz.func24 rfl ?_;have b:gY s 0 83 { tmps:=#[.string s]++Array.replicate (Tryz.f24.ntmps-(#[Value.string s]).size) undef,defers:=[] }:=aGd s 82;refine wp_seq (aAw b rfl ?_);clear b;intro a b _;refine wp_seq (wp_seq (aHC b rfl ?_));clear b;intro a b;refine mY (wp_block ?_);repeat' (first
  | (refine aAQ 9 s _ 3 83 (d _ (by decide +kernel)) b rfl ?_;clear b;intro a b c)
  | (with_reducible refine mY ?_)
  | (with_reducible refine xY ?_)
  | (with_reducible refine wp_cond_false c ?_)
  | (with_reducible refine wp_seq ?_)
  | (with_reducible refine wp_skip ?_))
 refine aAw b rfl ?_;clear b c;intro a b f;refine mY (wp_ret ?_);exact⟨b.defers,.int .i64 0,aGC w rfl f,rfl,rfl⟩
theorem sN (s:I)(w:H):Y 24 #[.string s] w fun e w'=>e=.returned (.int .i64 (aN s.data.toList:Nat))/\w=w':=by
 by_cases h:s.data.toList∈fD.map (·.1);{obtain⟨p,hp,e⟩:=g9.1 h;have a:=aMa p hp w;rw[e]at a;rw[<-e,(wE p hp).2];exact a};{rw[wD _ h];refine aJN s (fun l c=>?_) w;rw[ai];intro e;rw[toList_data,toList_data]at e;apply h;have b:s.data.toList=l:=e;rw[b];simpa using c}
open Go.RowKit
theorem aDQ (a:U):fS a []=if a.isEmpty then []else [a]:=by unfold fS;rfl
theorem uP (a l:U):fS a (32 :: l)=if a.isEmpty then fS [] l else a :: fS [] l:=by
 conv=>lhs;unfold fS
 rw[af rfl]
theorem aIO (a l:U)(c:UInt8)(h:¬c=32):fS a (c :: l)=fS (a++[c]) l:=by
 conv=>lhs;unfold fS
 rw[ae h]
def fG (l:U)(f k:Nat):U:=(l.take k).drop f
theorem oO (l:U)(k:Nat):fG l k k=[]:=by
 unfold fG;apply dy;rw[bu];omega
theorem aH6 (l:U)(f k:Nat)(h:k<l.length)(a:f<=k):fG l f (k+1)=fG l f k++[l[k]]:=by
 unfold fG;rw[fl h,uh (by rw[bu];omega)]
theorem pT (l:U)(f k:Nat)(h:k<=l.length)(a:f<k):(fG l f k).isEmpty=false:=by
 unfold fG;rw[su];intro e;have:=az List.length e;rw[bm,bu]at this;simp at this;omega
def fP (w l:U)(f k:Nat):Bool:=(fS (fG l f k) (l.drop k)).contains w
theorem aHE (w l:U):fP w l 0 0=inB w l:=by
 unfold fP inB aAl;rw[oO];rfl
theorem aJd (w l:U)(f k:Nat)(h:k<l.length)(b:f<=k)(a:¬l[k]=32):fP w l f (k+1)=fP w l f k:=by
 unfold fP;rw[dt h,aIO _ _ _ a,aH6 l f k h b]
theorem aHD (w l:U)(f k:Nat)(h:k<l.length)(b:f<k)(a:l[k]=32)(c:¬fG l f k=w):fP w l (k+1) (k+1)=fP w l f k:=by
 unfold fP;rw[dt h,a,uP,oO,pT l f k (by omega) b];simp only[fw,fy,List.contains_cons];have:(w==fG l f k)=false:=by{rw[ai];exact fun e=>c e.symm};rw[this,jl]
theorem aJc (w l:U)(k:Nat)(h:k<l.length)(a:l[k]=32):fP w l (k+1) (k+1)=fP w l k k:=by
 unfold fP;rw[dt h,a,uP,oO,oO];rfl
theorem aEO (w l:U)(f k:Nat)(h:k<=l.length)(b:f<k)(a:k=l.length\/∃h:k<l.length,l[k]=32)(c:fG l f k=w):fP w l f k=true:=by
 unfold fP;rcases a with rfl|⟨h,a⟩;{rw[dy (ah _),aDQ,pT l f _ h b,c];simp};{rw[dt h,a,uP,pT l f k (by omega) b,c];simp}
theorem aEN (w l:U)(f:Nat)(b:f<=l.length)(a:f<l.length->¬fG l f l.length=w):fP w l f l.length=false:=by
 unfold fP;rw[dy (ah _),aDQ];rcases ak f l.length with h|h;{rw[pT l f _ (ah _) h];have:=a h;simp only[fw,fy,List.contains_cons,List.contains_nil,rk];rw[ai];exact fun e=>this e.symm};{obtain rfl:f=l.length:=by{omega};rw[oO];rfl}
theorem iG (l:I)(f k:Nat):(l.extract f k).toList=fG l.data.toList f k:=by
 rw[toList_data];unfold fG;simp[List.drop_take]
def aQ5 (s l:I)(f k:Nat)(b:Bool):Prop :=
 f<=k/\(k<=l.size/\fP s.data.toList l.data.toList f k=b\/k=l.size+1/\b=false)
theorem oI (s l:I)(b:Bool)(A:G (inB s.data.toList l.data.toList=b))(J:l.size<=1000000000)(w:H) :
  Y 69 #[.string s,.string l] w fun e w'=>e=.returned (.bool b)/\w=w':=by
 go_enter Tryz.func69,Tryz.ntmps69
 go_wp2
 go_loop [4,5,6] (fun r z i=>r=.bool false/\∃f k:Nat,z=.int .i64 f/\i=.int .i64 k/\G (aQ5 s l f k b)) (fun _ _ i=>l.size+1-(intOf i).toNat)
 case atStart=>exact⟨rfl,0,0,rfl,rfl,⟨ah _,.inl ⟨bb _,by rw[aHE];exact A.o⟩⟩⟩
 case round =>
  obtain⟨rfl,f,k,rfl,rfl,t⟩:=hrel;rcases ak l.size k with C|C
  ·have v:b=false:=by
    rcases t.o.2 with⟨D,_⟩|⟨_,h⟩
    ·omega
    ·exact h
   have y:=Z v;clear v;go_wp2
   go_ret;refine⟨?_,rfl⟩;rw[y.o];rfl
  ·have u:f<=k:=t.o.1;have x:fP s.data.toList l.data.toList f k=b:=by
    rcases t.o.2 with⟨_,h⟩|⟨h,_⟩
    ·exact h
    ·omega
   have hlen:l.data.toList.length=l.size:=rfl;have g:=Z x;have a:=Z hlen;clear x hlen;rcases ak k l.size with d|E
   ·by_cases j:l[k]=32
    ·have B:((l[k].toNat:Int)==32)=true:=by rw[j];rfl
     have n:=Z j;clear j;rcases ak f k with m|m
     ·by_cases c:fG l.data.toList f k=s.data.toList
      ·have hx:((l.extract f k).toList==s.toList)=true:=by rw[iG,toList_data,c];simp
       have p:=Z c;clear c;go_wp2
       go_ret;refine⟨?_,rfl⟩;rw[<-g.o,aEO _ _ f k (b6 (a.o▸d)) m (.inr ⟨a.o▸d,n.o⟩) p.o];rfl
      ·have hx:((l.extract f k).toList==s.toList)=false:=by rw[iG,toList_data,ai];exact c
       have p:=Z c;clear c;go_wp2
       go_round
       case rel=>exact⟨rfl,k+1,k+1,by go_num,by go_num,⟨ah _,.inl ⟨d,(aHD _ _ f k (a.o▸d) m n.o p.o).trans g.o⟩⟩⟩
       case measure=>simp[intOf];omega
     ·obtain rfl:f=k:=by omega
      go_wp2
      go_round
      case rel=>exact⟨rfl,f+1,f+1,by go_num,by go_num,⟨ah _,.inl ⟨d,(aJc _ _ f (a.o▸d) n.o).trans g.o⟩⟩⟩
      case measure=>simp[intOf];omega
    ·have B:((l[k].toNat:Int)==32)=false:=by
      rw[ai];intro e;exact j (de.1 (by simpa using (by omega:l[k].toNat=32)))
     have F:((k:Int)==(l.size:Int))=false:=by
      rw[ai];omega
     have n:=Z j;clear j;go_wp2
     go_round
     case rel=>exact⟨rfl,f,k+1,rfl,by go_num,⟨by omega,.inl ⟨d,(aJd _ _ f k (a.o▸d) u n.o).trans g.o⟩⟩⟩
     case measure=>simp[intOf];omega
   ·obtain rfl:k=l.size:=by omega
    rcases ak f l.size with m|m
    ·by_cases c:fG l.data.toList f l.size=s.data.toList
     ·have hx:((l.extract f l.size).toList==s.toList)=true:=by rw[iG,toList_data,c];simp
      have p:=Z c;clear c;go_wp2
      go_ret;refine⟨?_,rfl⟩;rw[<-g.o,aEO _ _ f l.size (kj a.o.symm) m (.inl a.o.symm) p.o];rfl
     ·have hx:((l.extract f l.size).toList==s.toList)=false:=by rw[iG,toList_data,ai];exact c
      have q:G (b=false):=by
       show b=false;rw[<-g.o];have:=aEN s.data.toList l.data.toList f (by rw[a.o];exact u) (fun _=>by rw[a.o];exact c);rwa[a.o]at this
      clear c;go_wp2
      go_round
      case rel=>exact⟨rfl,l.size+1,l.size+1,by go_num,by go_num,⟨ah _,.inr ⟨rfl,q.o⟩⟩⟩
      case measure=>simp[intOf]
    ·obtain rfl:f=l.size:=by omega
     have q:G (b=false):=by
      show b=false;rw[<-g.o];have:=aEN s.data.toList l.data.toList l.size (by rw[a.o];exact u) (fun h=>by rw[a.o]at h;omega);rwa[a.o]at this
     go_wp2
     go_round
     case rel=>exact⟨rfl,l.size+1,l.size+1,by go_num,by go_num,⟨ah _,.inr ⟨rfl,q.o⟩⟩⟩
     case measure=>simp[intOf]
open Go.RowKit
def vI:I:=⟨#[98,111,100,121]⟩
def pV:I:=⟨#[100,105,118]⟩
def vJ:I:=⟨#[102,111,110,116]⟩
def lP:I:=⟨#[115,99,114,105,112,116]⟩
def sBS:I:=⟨#[98]⟩
def sIS:I:=⟨#[105]⟩
def sXS:I:=⟨#[120]⟩
def sYS:I:=⟨#[121]⟩
def sZS:I:=⟨#[122]⟩
def aEr:List Nd:=[elN pV [elN vJ [bG sXS,elN lP [bG sYS]],bG sZS]]
def aEs:List Nd:=[elN sBS [elN sIS [elN sBS [bG sXS]]]]
def aAW:List Nd:=[elN pV [bG ⟨#[120,122]⟩]]
def aAX:List Nd:=[elN sBS [elN sIS [bG sXS]]]
theorem aN6 (A:cW):bB A vI [] aEr=[.mk 1 0 pV (A pV []) ⟨#[]⟩ [bG ⟨#[120,122]⟩]]:=by kernel_rfl
theorem aN7 (A:cW):bB A vI [] aEs=[.mk 1 0 sBS (A sBS []) ⟨#[]⟩ [.mk 1 0 sIS (A sIS []) ⟨#[]⟩ [bG sXS]]]:=by kernel_rfl
theorem aP9 (A:cW)(a:∀e,A e []=[]):bB A vI [] aEr=aAW:=by
 rw[aN6,a];rfl
theorem aQa (A:cW)(a:∀e,A e []=[]):bB A vI [] aEs=aAX:=by
 rw[aN7,a,a];rfl
