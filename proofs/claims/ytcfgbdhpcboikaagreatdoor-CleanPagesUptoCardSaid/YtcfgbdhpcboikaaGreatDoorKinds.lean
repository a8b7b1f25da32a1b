/-
The kinds of elements, by name: the program's table and the document's lists. No program in sight.
-/
import Derived.Test.YtcfgbdhpcboikaaGreatDoorAa
import Derived.WalkKit
import Derived.Lib.Hide
import Derived.Test.YtcfgbdhpcboikaaGreatDoorProg
namespace Go.Proofs.YtcfgbdhpcboikaaGreatDoor
set_option maxHeartbeats 16000000
set_option maxRecDepth 100000
def fV:List (U × Nat):=[([98,111,100,121],14),
 ([100,105,118],2),
 ([98,108,111,99,107,113,117,111,116,101],2),
 ([112],3),
 ([104,49],3),
 ([104,50],3),
 ([104,51],3),
 ([104,52],3),
 ([104,53],3),
 ([104,54],3),
 ([112,114,101],3),
 ([97],4),
 ([98],4),
 ([99,111,100,101],4),
 ([101,109],4),
 ([105],4),
 ([109,101,116,101,114],4),
 ([112,114,111,103,114,101,115,115],4),
 ([115],4),
 ([115,109,97,108,108],4),
 ([115,112,97,110],4),
 ([115,116,114,111,110,103],4),
 ([115,117,98],4),
 ([115,117,112],4),
 ([117],4),
 ([98,114],5),
 ([105,109,103],5),
 ([104,114],6),
 ([111,108],7),
 ([117,108],7),
 ([108,105],8),
 ([116,97,98,108,101],9),
 ([99,97,112,116,105,111,110],10),
 ([116,98,111,100,121],11),
 ([116,102,111,111,116],11),
 ([116,104,101,97,100],11),
 ([116,114],12),
 ([116,100],13),
 ([116,104],13),
 ([97,112,112,108,101,116],1),
 ([97,117,100,105,111],1),
 ([98,97,115,101],1),
 ([98,117,116,116,111,110],1),
 ([99,97,110,118,97,115],1),
 ([101,109,98,101,100],1),
 ([102,114,97,109,101],1),
 ([102,114,97,109,101,115,101,116],1),
 ([104,101,97,100],1),
 ([105,102,114,97,109,101],1),
 ([105,110,112,117,116],1),
 ([108,105,110,107],1),
 ([109,101,116,97],1),
 ([110,111,101,109,98,101,100],1),
 ([110,111,102,114,97,109,101,115],1),
 ([111,98,106,101,99,116],1),
 ([111,112,116,105,111,110],1),
 ([112,97,114,97,109],1),
 ([115,99,114,105,112,116],1),
 ([115,101,108,101,99,116],1),
 ([115,116,121,108,101],1),
 ([116,101,109,112,108,97,116,101],1),
 ([116,101,120,116,97,114,101,97],1),
 ([116,105,116,108,101],1),
 ([118,105,100,101,111],1),
 ([120,109,112],1)]
def cU:List (U):=[[],
 [97,112,112,108,101,116,32,97,117,100,105,111,32,98,97,115,101,32,98,117,116,116,111,110,32,99,97,110,118,97,115,32,101,109,98,101,100,32,102,114,97,109,101,32,102,114,97,109,101,115,101,116,32,104,101,97,100,32,105,102,114,97,109,101,32,105,110,112,117,116,32,108,105,110,107,32,109,101,116,97,32,110,111,101,109,98,101,100,32,110,111,102,114,97,109,101,115,32,111,98,106,101,99,116,32,111,112,116,105,111,110,32,112,97,114,97,109,32,115,99,114,105,112,116,32,115,101,108,101,99,116,32,115,116,121,108,101,32,116,101,109,112,108,97,116,101,32,116,101,120,116,97,114,101,97,32,116,105,116,108,101,32,118,105,100,101,111,32,120,109,112],
 [100,105,118,32,98,108,111,99,107,113,117,111,116,101],
 [112,32,104,49,32,104,50,32,104,51,32,104,52,32,104,53,32,104,54,32,112,114,101],
 [97,32,98,32,99,111,100,101,32,101,109,32,105,32,109,101,116,101,114,32,112,114,111,103,114,101,115,115,32,115,32,115,109,97,108,108,32,115,112,97,110,32,115,116,114,111,110,103,32,115,117,98,32,115,117,112,32,117],
 [98,114,32,105,109,103],
 [104,114],
 [111,108,32,117,108],
 [108,105],
 [116,97,98,108,101],
 [99,97,112,116,105,111,110],
 [116,98,111,100,121,32,116,102,111,111,116,32,116,104,101,97,100],
 [116,114],
 [116,100,32,116,104],
 [98,111,100,121]]
def aS (n:U):Nat:=((fV.find? fun p=>p.1==n).map (·.2)).getD 0
def gN:U->U->List (U)
 | cur,[]=>if cur.isEmpty then []else [cur]
 | cur,c :: l=>if c=32 then (if cur.isEmpty then gN [] l else cur :: gN [] l)else gN (cur++[c]) l
def aA8 (l:U):List (U):=gN [] l
def inB (w l:U):Bool:=(aA8 l).contains w
def sT (n:U):List (U)->Nat->Nat
 | [],_=>0
 | l :: r,i=>if inB n l then i else sT n r (i+1)
theorem aM5 (n:U)(a:List (U))(i:Nat)(h:∀l∈a,inB n l=false):sT n a i=0:=by
 induction a generalizing i with|nil=>rfl|cons l r ih=>{unfold sT;rw[h l (eh ..)];exact ih (i+1) fun x hx=>h x (ew _ hx)}
theorem yL:∀p∈fV,sT p.1 cU 0=p.2/\aS p.1=p.2:=by decide +kernel
theorem aHj:∀l∈cU,∀w∈aA8 l,w∈fV.map (·.1):=by decide +kernel
theorem yJ (n:U)(h:n∉fV.map (·.1)):aS n=0:=by
 unfold aS;have:(fV.find? fun p=>p.1==n)=none:=by{rw[List.find?_eq_none];intro p b a;apply h;have e:p.1=n:=by{simpa using a};rw[<-e];exact List.mem_map_of_mem b};rw[this];rfl
theorem aKQ (n:U):sT n cU 0=aS n:=by
 by_cases h:n∈fV.map (·.1);{obtain⟨p,hp,rfl⟩:=ik.1 h;rw[(yL p hp).1,(yL p hp).2]};{rw[yJ n h,aM5];intro l b;unfold inB;rw[Bool.eq_false_iff];intro a;exact h (aHj l b n (by simpa using a))}
theorem mM (n:U):aS n<=14:=by
 by_cases h:n∈fV.map (·.1);{obtain⟨p,hp,rfl⟩:=ik.1 h;rw[(yL p hp).2];have:∀p∈fV,p.2<=14:=by{decide +kernel};exact this p hp};{rw[yJ n h];omega}
def lI (p k:Nat)(same:Bool):Bool :=
 if p=14\/p=2\/p=8\/p=13 then decide (2<=k)&&decide (k<=7)||decide (k=9)
 else if p=3\/p=10 then decide (k=4)||decide (k=5)
 else if p=4 then decide (k=4)&&!same||decide (k=5)
 else if p=7 then decide (k=8)
 else if p=9 then decide (k=10)||decide (k=11)
 else if p=11 then decide (k=12)
 else if p=12 then decide (k=13)
 else false
def uE (p:Nat):Nat :=
 if p=2\/p=8\/p=13\/p=14 then 765 else if p=3\/p=4\/p=10 then 49 else if p=7 then 256 else if p=9 then 3072 else if p=11 then 4096 else if p=12 then 8192 else 0
def aLQ (p:Nat):Bool:=decide (p=14\/p=2\/p=8\/p=13\/p=3\/p=10\/p=4)
def yP (p k:U):Bool:=lI (aS p) (aS k) (k==p)
def oG (p:U):Bool:=aLQ (aS p)
theorem aNj:∀p<15,∀k<15,∀b:Bool,(b=true->p=k)->(decide (0<k)&&decide (uE p / 2^k%2=1)&&!(decide (k=4)&&b))=lI p k b:=by decide +kernel
theorem aJv:∀p<15,decide (uE p%2=1)=aLQ p:=by decide +kernel
open Go.RowKit
structure jD (s:I) (k n:Nat) (a:Act):Prop where
 size:a.tmps.size=n
 word:a.tmps[k]?=some (.string s)
 defers:a.defers=[]
theorem jD.put {s:I}{k n:Nat}{a:Act}(h:jD s k n a)(t:Nat)(v:Value)(b:t≠k):jD s k n (a.put (some t) v) :=
 ⟨by simp[Act.put,h.size],by simp[Act.put,b,h.word],h.defers⟩
theorem jD.eval {s:I}{k n:Nat}{a:Act}(h:jD s k n a):a.eval (.tmp k)=.string s:=by
 simp[Act.eval,Array.getD_eq_getD_getElem?,h.word]
theorem uC {a:Act}{t:Nat}{v:Value}(h:t<a.tmps.size):(a.put (some t) v).eval (.tmp t)=v:=by
 simp[Act.eval,Act.put,Array.getD_eq_getD_getElem?,h]
theorem aMC {P:Program}{Q:Exit->Act->H->Prop}{w:H}(T B:TypeId)(s c:I)(k n b d:Nat)(A:b≠k)(C:d≠k)(y:b<n)(z:d<n)
  {D:Nat} {p1 p2:String} {q g:Array Edge} {a:Act} (f:jD s k n a)
  (h:∀e,jD s k n e->e.eval (.tmp d)=.bool (s.toList==c.toList)->Q .normal e w) :
  (Code.region D #[{ dst:=some b,op:=Op.binOp BinOp.eql T (Operand.tmp k) (Operand.const (Value.string c)) T,type:=B,pos:=p1,after:=q,guard:=none },
   { dst:=some d,op:=Op.assign (Operand.tmp b),type:=B,pos:=p2,after:=g,guard:=none }] false).wp P Q a w:=by
 have i:=f.put b (.bool (s.toList==c.toList)) A;have j:=uC (a:=a) (t:=b) (v:=.bool (s.toList==c.toList)) (by rw[f.size];exact y);have r:=i.put d (.bool (s.toList==c.toList)) C;have m:=uC (a:=a.put (some b) (.bool (s.toList==c.toList))) (t:=d) (v:=.bool (s.toList==c.toList)) (by rw[i.size];exact z);have ev:=f.eval;have p:a.eval (.const (.string c))=.string c:=rfl;refine qb (l:=[_,_]) ?_;refine i6 rfl fun K u=>?_
 have hx:=u _ _ (i6 (P:=P) (w:=w) (rest:=[]) (o:={ dst:=some d,op:=Op.assign (Operand.tmp b),type:=B,pos:=p2,after:=g,guard:=none }) (a:=a.put (some b) (.bool (s.toList==c.toList))) rfl fun E x=>by
  have:=x _ _ (qc (h _ r m));unfold Oper.wp;simp[execOp,j,Oper.upon];exact this)
 unfold Oper.wp;simp[execOp,eqGuard,ev,p,binOp_string_eql,Oper.upon];exact hx
theorem aBC {P:Program}{Q:Exit->Act->H->Prop}{w:H}(T:TypeId)(s c:I)(k n:Nat)(o:(s.toList==c.toList)=false)
  {B:TypeId} {e f:Nat} {p:Nat} {p1 p2:String} {g i:Array Edge} {a:Act} (m:jD s k n a) (d:(e !=k&&f !=k&&decide (e<n)&&decide (f<n))=true)
  (h:∀b,jD s k n b->b.eval (.tmp f)=.bool false->Q .normal b w) :
  (Code.region p #[{ dst:=some e,op:=Op.binOp BinOp.eql T (Operand.tmp k) (Operand.const (Value.string c)) T,type:=B,pos:=p1,after:=g,guard:=none },
   { dst:=some f,op:=Op.assign (Operand.tmp e),type:=B,pos:=p2,after:=i,guard:=none }] false).wp P Q a w:=by
 simp only[bt,db,ne_eq,bm]at d;exact aMC T B s c k n e f d.1.1.1 d.1.1.2 d.1.2 d.2 m fun b j l=>h b j (by rw[l,o])
theorem aBi {P:Program}{Q:Exit->Act->H->Prop}{w:H}{s:I}{k n:Nat}{B:TypeId}{t:Nat}{v:Value}{m:Nat}{p1:String}{g:Array Edge}{a:Act}(d:jD s k n a)(c:(t !=k&&decide (t<n))=true)
  (h:∀b,jD s k n b->b.eval (.tmp t)=v->Q .normal b w) :
  (Code.region m #[{ dst:=some t,op:=Op.assign (Operand.const v),type:=B,pos:=p1,after:=g,guard:=none }] false).wp P Q a w:=by
 simp only[bt,db,ne_eq,bm]at c;have i:=d.put t v c.1;have e:=uC (a:=a) (t:=t) (v:=v) (by rw[d.size];exact c.2);have f:a.eval (.const v)=v:=rfl;refine qb (l:=[_]) ?_;refine i6 rfl fun K j=>?_
 have hx:=j _ _ (qc (h _ i e));unfold Oper.wp;simp[execOp,f,Oper.upon];exact hx
theorem aIA {P:Program}{Q:Exit->Act->H->Prop}{w:H}{s:I}{k n:Nat}{B:TypeId}{t:Nat}{i:Nat}{p1:String}{e:Array Edge}{a:Act}(b:jD s k n a)(d:decide (t<n)=true)
  (h:∀c,jD s t n c->Q .normal c w) :
  (Code.region i #[{ dst:=some t,op:=Op.move (Operand.tmp k),type:=B,pos:=p1,after:=e,guard:=none }] false).wp P Q a w:=by
 simp only[bm]at d;have ev:=b.eval;have f:jD s t n (a.put (some t) (.string s)):=⟨by simp[Act.put,b.size],by simp[Act.put,b.size,d],b.defers⟩
 refine qb (l:=[_]) ?_;refine i6 rfl fun K g=>?_
 have hx:=g _ _ (qc (h _ f));unfold Oper.wp;simp[execOp,ev,Oper.upon];exact hx
theorem oH {next:Act->H->Prop}{Q:Exit->Act->H->Prop}{a:Act}{w:H}(h:next a w):Exit.then next Q .normal a w:=h
theorem aAa {b:Nat}{Q:Exit->Act->H->Prop}{a:Act}{w:H}(h:Q .normal a w):Exit.inBlock b Q .normal a w:=h
theorem aG7 (s:I)(m:Nat):jD s 0 (m+1) { tmps:=#[Value.string s]++Array.replicate m undef,defers:=[] } :=
 ⟨by simp;omega,by rw[l8 (by simp)];rfl,rfl⟩
open Go.RowKit
theorem aGW (a:I):∀(k i:Nat) (r:U),a.size-i=k->ByteArray.toList.loop a i r=r.reverse++a.data.toList.drop i:=by
 intro k;induction k with|zero=>{intro i r h;rw[ByteArray.toList.loop,ac (by omega)];have b:a.data.toList.length=a.size:=by{simp};rw[d6 (by omega),dc]}|succ k ih=>{intro i r h;have b:a.data.toList.length=a.size:=by{simp};rw[ByteArray.toList.loop,ae (by omega),ih _ _ (by omega)];rw[dy (i:=i) (by omega)];have e:a.get! i=a.data.toList[i]'(by omega):=by{unfold ByteArray.get!;have:i<a.data.size:=by{simpa using (by omega:i<a.size)};exact im a.data i this};rw[e];simp}
theorem toList_data (a:I):a.toList=a.data.toList:=by
 unfold ByteArray.toList;rw[aGW a _ 0 [] rfl];simp
def KW (p:U × Nat):Prop:=∀w:H,Y 24 #[.string ⟨p.1.toArray⟩] w fun e w'=>e=.returned (.int .i64 (p.2:Nat))/\w=w'
theorem aNa:∀p∈fV,KW p:=by
 unfold fV;repeat' (first|exact List.forall_mem_nil _|refine List.forall_mem_cons.2 ⟨?_,?_⟩)
 all_goals (unfold KW;intro w;dsimp only;go_enter Tryz.func24,Tryz.ntmps24;go_wp2;go_ret;exact⟨rfl,rfl⟩)
open Go.RowKit
theorem aHx {P:Program}{a:Func}{t:Nat}{c:Array Value}{v:Value}(w:H)(h:a.results=#[.tmp t])(b:c.getD t undef=v):(results a c).run P w=.ok v w:=by
 unfold results;rw[h];rw[jy]at b;simp[b]
theorem aKP (s:I)(d:∀l:U,(fV.map (·.1)).contains l=true->(s.toList==(⟨l.toArray⟩:I).toList)=false)(w:H):Y 24 #[.string s] w fun e w'=>e=.returned (.int .i64 0)/\w=w':=by
 refine calls_of_wp Tryz.func24 rfl ?_;have b:jD s 0 83 { tmps:=#[.string s]++Array.replicate (Tryz.f24.ntmps-(#[Value.string s]).size) undef,defers:=[] }:=aG7 s 82;refine wp_seq (aBi b rfl ?_);clear b;intro a b _;refine wp_seq (wp_seq (aIA b rfl ?_));clear b;intro a b;refine oH (wp_block ?_);repeat' (first
  | (refine aBC 9 s _ 3 83 (d _ (by decide +kernel)) b rfl ?_;clear b;intro a b c)
  | (with_reducible refine oH ?_)
  | (with_reducible refine aAa ?_)
  | (with_reducible refine wp_cond_false c ?_)
  | (with_reducible refine wp_seq ?_)
  | (with_reducible refine wp_skip ?_))
 refine aBi b rfl ?_;clear b c;intro a b f;refine oH (wp_ret ?_);exact⟨b.defers,.int .i64 0,aHx w rfl f,rfl,rfl⟩
theorem uF (s:I)(w:H):Y 24 #[.string s] w fun e w'=>e=.returned (.int .i64 (aS s.data.toList:Nat))/\w=w':=by
 by_cases h:s.data.toList∈fV.map (·.1);{obtain⟨p,hp,e⟩:=ik.1 h;have a:=aNa p hp w;rw[e]at a;rw[<-e,(yL p hp).2];exact a};{rw[yJ _ h];refine aKP s (fun l c=>?_) w;rw[ai];intro e;rw[toList_data,toList_data]at e;apply h;have b:s.data.toList=l:=e;rw[b];simpa using c}
open Go.RowKit
def aZ (s:I)(n:Int):Prop:=∀w,Y 24 #[.string s] w fun e w'=>e=.returned (.int .i64 n)/\w=w'
theorem aDR (s:I):aZ s (aS s.data.toList:Nat):=fun w=>uF s w
theorem eD {a b:Bool}(h:a=b):Ending.returned (.bool a)=.returned (.bool b):=by rw[h]
theorem aSs (p k:I)(K:Int)(b:Bool)(w:H)(d:G (aZ p 0))(c:G (aZ k K))(a:G ((false)=b)) :
  Y 26 #[.string p,.string k] w fun e w'=>e=.returned (.bool b)/\w=w':=by
 go_enter Tryz.func26,Tryz.ntmps26
 go_wp2_with fail
 refine(c.o _).mono ?_;rintro e w' ⟨rfl,rfl⟩;go_wp2_with fail
 refine(d.o _).mono ?_;rintro e w' ⟨rfl,rfl⟩;go_wp2
 all_goals
  go_ret;refine⟨eD ?_,rfl⟩;first
   | (rw[<-a.o];done)
   | (rw[<-a.o,ba];simp;done)
   | (rw[<-a.o,ba];simp;omega)
   | (rw[<-a.o];simp_all;done)
theorem aSt (p k:I)(K:Int)(b:Bool)(w:H)(d:G (aZ p 1))(c:G (aZ k K))(a:G ((false)=b)) :
  Y 26 #[.string p,.string k] w fun e w'=>e=.returned (.bool b)/\w=w':=by
 go_enter Tryz.func26,Tryz.ntmps26
 go_wp2_with fail
 refine(c.o _).mono ?_;rintro e w' ⟨rfl,rfl⟩;go_wp2_with fail
 refine(d.o _).mono ?_;rintro e w' ⟨rfl,rfl⟩;go_wp2
 all_goals
  go_ret;refine⟨eD ?_,rfl⟩;first
   | (rw[<-a.o];done)
   | (rw[<-a.o,ba];simp;done)
   | (rw[<-a.o,ba];simp;omega)
   | (rw[<-a.o];simp_all;done)
theorem aSu (p k:I)(K:Int)(b:Bool)(w:H)(d:G (aZ p 2))(c:G (aZ k K))(a:G ((decide (2<=K)&&decide (K<=7)||decide (K=9))=b)) :
  Y 26 #[.string p,.string k] w fun e w'=>e=.returned (.bool b)/\w=w':=by
 go_enter Tryz.func26,Tryz.ntmps26
 go_wp2_with fail
 refine(c.o _).mono ?_;rintro e w' ⟨rfl,rfl⟩;go_wp2_with fail
 refine(d.o _).mono ?_;rintro e w' ⟨rfl,rfl⟩;go_wp2
 all_goals
  go_ret;refine⟨eD ?_,rfl⟩;first
   | (rw[<-a.o];done)
   | (rw[<-a.o,ba];simp;done)
   | (rw[<-a.o,ba];simp;omega)
   | (rw[<-a.o];simp_all;done)
theorem aSv (p k:I)(K:Int)(b:Bool)(w:H)(d:G (aZ p 3))(c:G (aZ k K))(a:G ((decide (K=4)||decide (K=5))=b)) :
  Y 26 #[.string p,.string k] w fun e w'=>e=.returned (.bool b)/\w=w':=by
 go_enter Tryz.func26,Tryz.ntmps26
 go_wp2_with fail
 refine(c.o _).mono ?_;rintro e w' ⟨rfl,rfl⟩;go_wp2_with fail
 refine(d.o _).mono ?_;rintro e w' ⟨rfl,rfl⟩;go_wp2
 all_goals
  go_ret;refine⟨eD ?_,rfl⟩;first
   | (rw[<-a.o];done)
   | (rw[<-a.o,ba];simp;done)
   | (rw[<-a.o,ba];simp;omega)
   | (rw[<-a.o];simp_all;done)
theorem aSw (p k:I)(K:Int)(b:Bool)(w:H)(d:G (aZ p 4))(c:G (aZ k K))(a:G ((decide (K=4)&&!(k.toList==p.toList)||decide (K=5))=b)) :
  Y 26 #[.string p,.string k] w fun e w'=>e=.returned (.bool b)/\w=w':=by
 go_enter Tryz.func26,Tryz.ntmps26
 go_wp2_with fail
 refine(c.o _).mono ?_;rintro e w' ⟨rfl,rfl⟩;go_wp2_with fail
 refine(d.o _).mono ?_;rintro e w' ⟨rfl,rfl⟩;go_wp2
 all_goals
  go_ret;refine⟨eD ?_,rfl⟩;first
   | (rw[<-a.o];done)
   | (rw[<-a.o,ba];simp;done)
   | (rw[<-a.o,ba];simp;omega)
   | (rw[<-a.o];simp_all;done)
theorem aSx (p k:I)(K:Int)(b:Bool)(w:H)(d:G (aZ p 5))(c:G (aZ k K))(a:G ((false)=b)) :
  Y 26 #[.string p,.string k] w fun e w'=>e=.returned (.bool b)/\w=w':=by
 go_enter Tryz.func26,Tryz.ntmps26
 go_wp2_with fail
 refine(c.o _).mono ?_;rintro e w' ⟨rfl,rfl⟩;go_wp2_with fail
 refine(d.o _).mono ?_;rintro e w' ⟨rfl,rfl⟩;go_wp2
 all_goals
  go_ret;refine⟨eD ?_,rfl⟩;first
   | (rw[<-a.o];done)
   | (rw[<-a.o,ba];simp;done)
   | (rw[<-a.o,ba];simp;omega)
   | (rw[<-a.o];simp_all;done)
theorem aSy (p k:I)(K:Int)(b:Bool)(w:H)(d:G (aZ p 6))(c:G (aZ k K))(a:G ((false)=b)) :
  Y 26 #[.string p,.string k] w fun e w'=>e=.returned (.bool b)/\w=w':=by
 go_enter Tryz.func26,Tryz.ntmps26
 go_wp2_with fail
 refine(c.o _).mono ?_;rintro e w' ⟨rfl,rfl⟩;go_wp2_with fail
 refine(d.o _).mono ?_;rintro e w' ⟨rfl,rfl⟩;go_wp2
 all_goals
  go_ret;refine⟨eD ?_,rfl⟩;first
   | (rw[<-a.o];done)
   | (rw[<-a.o,ba];simp;done)
   | (rw[<-a.o,ba];simp;omega)
   | (rw[<-a.o];simp_all;done)
theorem aSz (p k:I)(K:Int)(b:Bool)(w:H)(d:G (aZ p 7))(c:G (aZ k K))(a:G ((decide (K=8))=b)) :
  Y 26 #[.string p,.string k] w fun e w'=>e=.returned (.bool b)/\w=w':=by
 go_enter Tryz.func26,Tryz.ntmps26
 go_wp2_with fail
 refine(c.o _).mono ?_;rintro e w' ⟨rfl,rfl⟩;go_wp2_with fail
 refine(d.o _).mono ?_;rintro e w' ⟨rfl,rfl⟩;go_wp2
 all_goals
  go_ret;refine⟨eD ?_,rfl⟩;first
   | (rw[<-a.o];done)
   | (rw[<-a.o,ba];simp;done)
   | (rw[<-a.o,ba];simp;omega)
   | (rw[<-a.o];simp_all;done)
theorem aSA (p k:I)(K:Int)(b:Bool)(w:H)(d:G (aZ p 8))(c:G (aZ k K))(a:G ((decide (2<=K)&&decide (K<=7)||decide (K=9))=b)) :
  Y 26 #[.string p,.string k] w fun e w'=>e=.returned (.bool b)/\w=w':=by
 go_enter Tryz.func26,Tryz.ntmps26
 go_wp2_with fail
 refine(c.o _).mono ?_;rintro e w' ⟨rfl,rfl⟩;go_wp2_with fail
 refine(d.o _).mono ?_;rintro e w' ⟨rfl,rfl⟩;go_wp2
 all_goals
  go_ret;refine⟨eD ?_,rfl⟩;first
   | (rw[<-a.o];done)
   | (rw[<-a.o,ba];simp;done)
   | (rw[<-a.o,ba];simp;omega)
   | (rw[<-a.o];simp_all;done)
theorem aSB (p k:I)(K:Int)(b:Bool)(w:H)(d:G (aZ p 9))(c:G (aZ k K))(a:G ((decide (K=10)||decide (K=11))=b)) :
  Y 26 #[.string p,.string k] w fun e w'=>e=.returned (.bool b)/\w=w':=by
 go_enter Tryz.func26,Tryz.ntmps26
 go_wp2_with fail
 refine(c.o _).mono ?_;rintro e w' ⟨rfl,rfl⟩;go_wp2_with fail
 refine(d.o _).mono ?_;rintro e w' ⟨rfl,rfl⟩;go_wp2
 all_goals
  go_ret;refine⟨eD ?_,rfl⟩;first
   | (rw[<-a.o];done)
   | (rw[<-a.o,ba];simp;done)
   | (rw[<-a.o,ba];simp;omega)
   | (rw[<-a.o];simp_all;done)
theorem aRr (p k:I)(K:Int)(b:Bool)(w:H)(d:G (aZ p 10))(c:G (aZ k K))(a:G ((decide (K=4)||decide (K=5))=b)) :
  Y 26 #[.string p,.string k] w fun e w'=>e=.returned (.bool b)/\w=w':=by
 go_enter Tryz.func26,Tryz.ntmps26
 go_wp2_with fail
 refine(c.o _).mono ?_;rintro e w' ⟨rfl,rfl⟩;go_wp2_with fail
 refine(d.o _).mono ?_;rintro e w' ⟨rfl,rfl⟩;go_wp2
 all_goals
  go_ret;refine⟨eD ?_,rfl⟩;first
   | (rw[<-a.o];done)
   | (rw[<-a.o,ba];simp;done)
   | (rw[<-a.o,ba];simp;omega)
   | (rw[<-a.o];simp_all;done)
theorem aRs (p k:I)(K:Int)(b:Bool)(w:H)(d:G (aZ p 11))(c:G (aZ k K))(a:G ((decide (K=12))=b)) :
  Y 26 #[.string p,.string k] w fun e w'=>e=.returned (.bool b)/\w=w':=by
 go_enter Tryz.func26,Tryz.ntmps26
 go_wp2_with fail
 refine(c.o _).mono ?_;rintro e w' ⟨rfl,rfl⟩;go_wp2_with fail
 refine(d.o _).mono ?_;rintro e w' ⟨rfl,rfl⟩;go_wp2
 all_goals
  go_ret;refine⟨eD ?_,rfl⟩;first
   | (rw[<-a.o];done)
   | (rw[<-a.o,ba];simp;done)
   | (rw[<-a.o,ba];simp;omega)
   | (rw[<-a.o];simp_all;done)
theorem aRt (p k:I)(K:Int)(b:Bool)(w:H)(d:G (aZ p 12))(c:G (aZ k K))(a:G ((decide (K=13))=b)) :
  Y 26 #[.string p,.string k] w fun e w'=>e=.returned (.bool b)/\w=w':=by
 go_enter Tryz.func26,Tryz.ntmps26
 go_wp2_with fail
 refine(c.o _).mono ?_;rintro e w' ⟨rfl,rfl⟩;go_wp2_with fail
 refine(d.o _).mono ?_;rintro e w' ⟨rfl,rfl⟩;go_wp2
 all_goals
  go_ret;refine⟨eD ?_,rfl⟩;first
   | (rw[<-a.o];done)
   | (rw[<-a.o,ba];simp;done)
   | (rw[<-a.o,ba];simp;omega)
   | (rw[<-a.o];simp_all;done)
theorem aRu (p k:I)(K:Int)(b:Bool)(w:H)(d:G (aZ p 13))(c:G (aZ k K))(a:G ((decide (2<=K)&&decide (K<=7)||decide (K=9))=b)) :
  Y 26 #[.string p,.string k] w fun e w'=>e=.returned (.bool b)/\w=w':=by
 go_enter Tryz.func26,Tryz.ntmps26
 go_wp2_with fail
 refine(c.o _).mono ?_;rintro e w' ⟨rfl,rfl⟩;go_wp2_with fail
 refine(d.o _).mono ?_;rintro e w' ⟨rfl,rfl⟩;go_wp2
 all_goals
  go_ret;refine⟨eD ?_,rfl⟩;first
   | (rw[<-a.o];done)
   | (rw[<-a.o,ba];simp;done)
   | (rw[<-a.o,ba];simp;omega)
   | (rw[<-a.o];simp_all;done)
theorem aRv (p k:I)(K:Int)(b:Bool)(w:H)(d:G (aZ p 14))(c:G (aZ k K))(a:G ((decide (2<=K)&&decide (K<=7)||decide (K=9))=b)) :
  Y 26 #[.string p,.string k] w fun e w'=>e=.returned (.bool b)/\w=w':=by
 go_enter Tryz.func26,Tryz.ntmps26
 go_wp2_with fail
 refine(c.o _).mono ?_;rintro e w' ⟨rfl,rfl⟩;go_wp2_with fail
 refine(d.o _).mono ?_;rintro e w' ⟨rfl,rfl⟩;go_wp2
 all_goals
  go_ret;refine⟨eD ?_,rfl⟩;first
   | (rw[<-a.o];done)
   | (rw[<-a.o,ba];simp;done)
   | (rw[<-a.o,ba];simp;omega)
   | (rw[<-a.o];simp_all;done)
theorem aPu (p k:I)(w:H):Y 26 #[.string p,.string k] w fun e w'=>e=.returned (.bool (yP p.data.toList k.data.toList))/\w=w':=by
 have j:=aDR p;have i:=aDR k;have q:(k.toList==p.toList)=(k.data.toList==p.data.toList):=by{rw[toList_data,toList_data]};have r:=mM p.data.toList;unfold yP;rw[<-q];generalize aS k.data.toList=K at i;generalize aS p.data.toList=P at j r;have g:∀(n:Nat) (f:Bool),P=n->f=lI n K (k.toList==p.toList)->(∀b,G (aZ p n)->G (aZ k (K:Nat))->G (f=b)->Y 26 #[.string p,.string k] w fun e w'=>e=.returned (.bool b)/\w=w')->Y 26 #[.string p,.string k] w fun e w'=>e=.returned (.bool (lI P K (k.toList==p.toList)))/\w=w':=by{intro n f o m h;subst o;exact h _ (Z j) (Z i) (Z m)};have l:P=0\/P=1\/P=2\/P=3\/P=4\/P=5\/P=6\/P=7\/P=8\/P=9\/P=10\/P=11\/P=12\/P=13\/P=14:=by{omega};rcases l with h|h|h|h|h|h|h|h|h|h|h|h|h|h|h;{exact g 0 _ h (by simp only[lI];rw[ba];simp;try omega) fun b a c d=>aSs p k _ b w a c d};{exact g 1 _ h (by simp only[lI];rw[ba];simp;try omega) fun b a c d=>aSt p k _ b w a c d};{exact g 2 _ h (by simp only[lI];rw[ba];simp;try omega) fun b a c d=>aSu p k _ b w a c d};{exact g 3 _ h (by simp only[lI];rw[ba];simp;try omega) fun b a c d=>aSv p k _ b w a c d};{exact g 4 _ h (by simp only[lI];rw[ba];simp;rw[show((K:Nat):Int)=4↔K=4 by omega,show((K:Nat):Int)=5↔K=5 by omega]) fun b a c d=>aSw p k _ b w a c d};{exact g 5 _ h (by simp only[lI];rw[ba];simp;try omega) fun b a c d=>aSx p k _ b w a c d};{exact g 6 _ h (by simp only[lI];rw[ba];simp;try omega) fun b a c d=>aSy p k _ b w a c d};{exact g 7 _ h (by simp only[lI];rw[ba];simp;try omega) fun b a c d=>aSz p k _ b w a c d};{exact g 8 _ h (by simp only[lI];rw[ba];simp;try omega) fun b a c d=>aSA p k _ b w a c d};{exact g 9 _ h (by simp only[lI];rw[ba];simp;try omega) fun b a c d=>aSB p k _ b w a c d};{exact g 10 _ h (by simp only[lI];rw[ba];simp;try omega) fun b a c d=>aRr p k _ b w a c d};{exact g 11 _ h (by simp only[lI];rw[ba];simp;try omega) fun b a c d=>aRs p k _ b w a c d};{exact g 12 _ h (by simp only[lI];rw[ba];simp;try omega) fun b a c d=>aRt p k _ b w a c d};{exact g 13 _ h (by simp only[lI];rw[ba];simp;try omega) fun b a c d=>aRu p k _ b w a c d};{exact g 14 _ h (by simp only[lI];rw[ba];simp;try omega) fun b a c d=>aRv p k _ b w a c d}
theorem aQg (p:I)(w:H)(a:G (aZ p 0)) :
  Y 28 #[.string p] w fun e w'=>e=.returned (.bool false)/\w=w':=by
 go_enter Tryz.func28,Tryz.ntmps28
 go_wp2_with fail
 refine(a.o _).mono ?_;rintro e w' ⟨rfl,rfl⟩;go_wp2
 go_ret;exact⟨rfl,rfl⟩
theorem aQh (p:I)(w:H)(a:G (aZ p 1)) :
  Y 28 #[.string p] w fun e w'=>e=.returned (.bool false)/\w=w':=by
 go_enter Tryz.func28,Tryz.ntmps28
 go_wp2_with fail
 refine(a.o _).mono ?_;rintro e w' ⟨rfl,rfl⟩;go_wp2
 go_ret;exact⟨rfl,rfl⟩
theorem aQi (p:I)(w:H)(a:G (aZ p 2)) :
  Y 28 #[.string p] w fun e w'=>e=.returned (.bool true)/\w=w':=by
 go_enter Tryz.func28,Tryz.ntmps28
 go_wp2_with fail
 refine(a.o _).mono ?_;rintro e w' ⟨rfl,rfl⟩;go_wp2
 go_ret;exact⟨rfl,rfl⟩
theorem aQj (p:I)(w:H)(a:G (aZ p 3)) :
  Y 28 #[.string p] w fun e w'=>e=.returned (.bool true)/\w=w':=by
 go_enter Tryz.func28,Tryz.ntmps28
 go_wp2_with fail
 refine(a.o _).mono ?_;rintro e w' ⟨rfl,rfl⟩;go_wp2
 go_ret;exact⟨rfl,rfl⟩
theorem aQk (p:I)(w:H)(a:G (aZ p 4)) :
  Y 28 #[.string p] w fun e w'=>e=.returned (.bool true)/\w=w':=by
 go_enter Tryz.func28,Tryz.ntmps28
 go_wp2_with fail
 refine(a.o _).mono ?_;rintro e w' ⟨rfl,rfl⟩;go_wp2
 go_ret;exact⟨rfl,rfl⟩
theorem aQl (p:I)(w:H)(a:G (aZ p 5)) :
  Y 28 #[.string p] w fun e w'=>e=.returned (.bool false)/\w=w':=by
 go_enter Tryz.func28,Tryz.ntmps28
 go_wp2_with fail
 refine(a.o _).mono ?_;rintro e w' ⟨rfl,rfl⟩;go_wp2
 go_ret;exact⟨rfl,rfl⟩
theorem aQm (p:I)(w:H)(a:G (aZ p 6)) :
  Y 28 #[.string p] w fun e w'=>e=.returned (.bool false)/\w=w':=by
 go_enter Tryz.func28,Tryz.ntmps28
 go_wp2_with fail
 refine(a.o _).mono ?_;rintro e w' ⟨rfl,rfl⟩;go_wp2
 go_ret;exact⟨rfl,rfl⟩
theorem aQn (p:I)(w:H)(a:G (aZ p 7)) :
  Y 28 #[.string p] w fun e w'=>e=.returned (.bool false)/\w=w':=by
 go_enter Tryz.func28,Tryz.ntmps28
 go_wp2_with fail
 refine(a.o _).mono ?_;rintro e w' ⟨rfl,rfl⟩;go_wp2
 go_ret;exact⟨rfl,rfl⟩
theorem aQo (p:I)(w:H)(a:G (aZ p 8)) :
  Y 28 #[.string p] w fun e w'=>e=.returned (.bool true)/\w=w':=by
 go_enter Tryz.func28,Tryz.ntmps28
 go_wp2_with fail
 refine(a.o _).mono ?_;rintro e w' ⟨rfl,rfl⟩;go_wp2
 go_ret;exact⟨rfl,rfl⟩
theorem aQp (p:I)(w:H)(a:G (aZ p 9)) :
  Y 28 #[.string p] w fun e w'=>e=.returned (.bool false)/\w=w':=by
 go_enter Tryz.func28,Tryz.ntmps28
 go_wp2_with fail
 refine(a.o _).mono ?_;rintro e w' ⟨rfl,rfl⟩;go_wp2
 go_ret;exact⟨rfl,rfl⟩
theorem aN4 (p:I)(w:H)(a:G (aZ p 10)) :
  Y 28 #[.string p] w fun e w'=>e=.returned (.bool true)/\w=w':=by
 go_enter Tryz.func28,Tryz.ntmps28
 go_wp2_with fail
 refine(a.o _).mono ?_;rintro e w' ⟨rfl,rfl⟩;go_wp2
 go_ret;exact⟨rfl,rfl⟩
theorem aN5 (p:I)(w:H)(a:G (aZ p 11)) :
  Y 28 #[.string p] w fun e w'=>e=.returned (.bool false)/\w=w':=by
 go_enter Tryz.func28,Tryz.ntmps28
 go_wp2_with fail
 refine(a.o _).mono ?_;rintro e w' ⟨rfl,rfl⟩;go_wp2
 go_ret;exact⟨rfl,rfl⟩
theorem aN6 (p:I)(w:H)(a:G (aZ p 12)) :
  Y 28 #[.string p] w fun e w'=>e=.returned (.bool false)/\w=w':=by
 go_enter Tryz.func28,Tryz.ntmps28
 go_wp2_with fail
 refine(a.o _).mono ?_;rintro e w' ⟨rfl,rfl⟩;go_wp2
 go_ret;exact⟨rfl,rfl⟩
theorem aN7 (p:I)(w:H)(a:G (aZ p 13)) :
  Y 28 #[.string p] w fun e w'=>e=.returned (.bool true)/\w=w':=by
 go_enter Tryz.func28,Tryz.ntmps28
 go_wp2_with fail
 refine(a.o _).mono ?_;rintro e w' ⟨rfl,rfl⟩;go_wp2
 go_ret;exact⟨rfl,rfl⟩
theorem aN8 (p:I)(w:H)(a:G (aZ p 14)) :
  Y 28 #[.string p] w fun e w'=>e=.returned (.bool true)/\w=w':=by
 go_enter Tryz.func28,Tryz.ntmps28
 go_wp2_with fail
 refine(a.o _).mono ?_;rintro e w' ⟨rfl,rfl⟩;go_wp2
 go_ret;exact⟨rfl,rfl⟩
theorem aLR (p:I)(w:H):Y 28 #[.string p] w fun e w'=>e=.returned (.bool (oG p.data.toList))/\w=w':=by
 have a:=aDR p;have c:=mM p.data.toList;unfold oG;generalize aS p.data.toList=P at a c;have b:P=0\/P=1\/P=2\/P=3\/P=4\/P=5\/P=6\/P=7\/P=8\/P=9\/P=10\/P=11\/P=12\/P=13\/P=14:=by{omega};rcases b with rfl|rfl|rfl|rfl|rfl|rfl|rfl|rfl|rfl|rfl|rfl|rfl|rfl|rfl|rfl;{exact aQg p w (Z a)};{exact aQh p w (Z a)};{exact aQi p w (Z a)};{exact aQj p w (Z a)};{exact aQk p w (Z a)};{exact aQl p w (Z a)};{exact aQm p w (Z a)};{exact aQn p w (Z a)};{exact aQo p w (Z a)};{exact aQp p w (Z a)};{exact aN4 p w (Z a)};{exact aN5 p w (Z a)};{exact aN6 p w (Z a)};{exact aN7 p w (Z a)};{exact aN8 p w (Z a)}
