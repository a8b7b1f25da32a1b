/-
The kinds of elements, by name: the program's table and the document's lists. No program in sight.
-/
import Derived.WalkKit
import Derived.Lib.Hide
import Derived.Test.YtcfgbdhpcboikaaGreatDoorProg
namespace Go.Proofs.YtcfgbdhpcboikaaGreatDoor
open Go.Lib (hid)
set_option maxHeartbeats 16000000
set_option maxRecDepth 100000
def gB:List (List UInt8 × Nat):=[([98,111,100,121],14),
 ([100,105,118],2),
 ([98,108,111,99,107,113,117,111,116,101],2),
 ([112],3),
 ([104,49],3),
 ([104,50],3),
 ([104,51],3),
 ([104,52],3),
 ([104,53],3),
 ([104,54],3),
 ([112,114,101],3),
 ([97],4),
 ([98],4),
 ([99,111,100,101],4),
 ([101,109],4),
 ([105],4),
 ([109,101,116,101,114],4),
 ([112,114,111,103,114,101,115,115],4),
 ([115],4),
 ([115,109,97,108,108],4),
 ([115,112,97,110],4),
 ([115,116,114,111,110,103],4),
 ([115,117,98],4),
 ([115,117,112],4),
 ([117],4),
 ([98,114],5),
 ([105,109,103],5),
 ([104,114],6),
 ([111,108],7),
 ([117,108],7),
 ([108,105],8),
 ([116,97,98,108,101],9),
 ([99,97,112,116,105,111,110],10),
 ([116,98,111,100,121],11),
 ([116,102,111,111,116],11),
 ([116,104,101,97,100],11),
 ([116,114],12),
 ([116,100],13),
 ([116,104],13),
 ([97,112,112,108,101,116],1),
 ([97,117,100,105,111],1),
 ([98,97,115,101],1),
 ([98,117,116,116,111,110],1),
 ([99,97,110,118,97,115],1),
 ([101,109,98,101,100],1),
 ([102,114,97,109,101],1),
 ([102,114,97,109,101,115,101,116],1),
 ([104,101,97,100],1),
 ([105,102,114,97,109,101],1),
 ([105,110,112,117,116],1),
 ([108,105,110,107],1),
 ([109,101,116,97],1),
 ([110,111,101,109,98,101,100],1),
 ([110,111,102,114,97,109,101,115],1),
 ([111,98,106,101,99,116],1),
 ([111,112,116,105,111,110],1),
 ([112,97,114,97,109],1),
 ([115,99,114,105,112,116],1),
 ([115,101,108,101,99,116],1),
 ([115,116,121,108,101],1),
 ([116,101,109,112,108,97,116,101],1),
 ([116,101,120,116,97,114,101,97],1),
 ([116,105,116,108,101],1),
 ([118,105,100,101,111],1),
 ([120,109,112],1)]
def aG8:List (List UInt8):=[[],
 [97,112,112,108,101,116,32,97,117,100,105,111,32,98,97,115,101,32,98,117,116,116,111,110,32,99,97,110,118,97,115,32,101,109,98,101,100,32,102,114,97,109,101,32,102,114,97,109,101,115,101,116,32,104,101,97,100,32,105,102,114,97,109,101,32,105,110,112,117,116,32,108,105,110,107,32,109,101,116,97,32,110,111,101,109,98,101,100,32,110,111,102,114,97,109,101,115,32,111,98,106,101,99,116,32,111,112,116,105,111,110,32,112,97,114,97,109,32,115,99,114,105,112,116,32,115,101,108,101,99,116,32,115,116,121,108,101,32,116,101,109,112,108,97,116,101,32,116,101,120,116,97,114,101,97,32,116,105,116,108,101,32,118,105,100,101,111,32,120,109,112],
 [100,105,118,32,98,108,111,99,107,113,117,111,116,101],
 [112,32,104,49,32,104,50,32,104,51,32,104,52,32,104,53,32,104,54,32,112,114,101],
 [97,32,98,32,99,111,100,101,32,101,109,32,105,32,109,101,116,101,114,32,112,114,111,103,114,101,115,115,32,115,32,115,109,97,108,108,32,115,112,97,110,32,115,116,114,111,110,103,32,115,117,98,32,115,117,112,32,117],
 [98,114,32,105,109,103],
 [104,114],
 [111,108,32,117,108],
 [108,105],
 [116,97,98,108,101],
 [99,97,112,116,105,111,110],
 [116,98,111,100,121,32,116,102,111,111,116,32,116,104,101,97,100],
 [116,114],
 [116,100,32,116,104],
 [98,111,100,121]]
def bR (n:List UInt8):Nat:=((gB.find? fun p=>p.1==n).map (·.2)).getD 0
def xK:List UInt8→List UInt8→List (List UInt8)
 | cur,[]=>if cur.isEmpty then []else [cur]
 | cur,c :: l=>if c=32 then (if cur.isEmpty then xK [] l else cur :: xK [] l)else xK (cur++[c]) l
def aNh (l:List UInt8):List (List UInt8):=xK [] l
def inB (w l:List UInt8):Bool:=(aNh l).contains w
def aKc (n:List UInt8):List (List UInt8)→Nat→Nat
 | [],_=>0
 | l :: r,i=>if inB n l then i else aKc n r (i+1)
theorem zB:∀p∈gB,aKc p.1 aG8 0=p.2∧bR p.1=p.2:=by decide +kernel
theorem tT (n:List UInt8)(h:n∉gB.map (·.1)):bR n=0:=by
 unfold bR;have:(gB.find? fun p=>p.1==n)=none:=by
  rw[List.find?_eq_none];intro p hp he;apply h;have e:p.1=n:=by simpa using he
  rw[←e];exact List.mem_map_of_mem hp
 rw[this];rfl
theorem nH (n:List UInt8):bR n≤14:=by
 by_cases h:n∈gB.map (·.1)
 ·obtain⟨p,hp,rfl⟩:=List.mem_map.1 h;rw[(zB p hp).2];have:∀p∈gB,p.2≤14:=by decide +kernel
  exact this p hp
 ·rw[tT n h];omega
def iL (p k:Nat)(same:Bool):Bool :=
 if p=14∨p=2∨p=8∨p=13 then decide (2≤k)&&decide (k≤7)||decide (k=9)
 else if p=3∨p=10 then decide (k=4)||decide (k=5)
 else if p=4 then decide (k=4)&&!same||decide (k=5)
 else if p=7 then decide (k=8)
 else if p=9 then decide (k=10)||decide (k=11)
 else if p=11 then decide (k=12)
 else if p=12 then decide (k=13)
 else false
def aH5 (p:Nat):Bool:=decide (p=14∨p=2∨p=8∨p=13∨p=3∨p=10∨p=4)
def rP (p k:List UInt8):Bool:=iL (bR p) (bR k) (k==p)
def lO (p:List UInt8):Bool:=aH5 (bR p)
open Go.RowKit
structure gL (s:ByteArray) (k n:Nat) (a:Act):Prop where
 size:a.tmps.size=n
 word:a.tmps[k]?=some (.string s)
 defers:a.defers=[]
theorem gL.put {s:ByteArray}{k n:Nat}{a:Act}(h:gL s k n a)(t:Nat)(v:Value)(ht:t≠k):gL s k n (a.put (some t) v) :=
 ⟨by simp[Act.put,h.size],by simp[Act.put,ht,h.word],h.defers⟩
theorem gL.eval {s:ByteArray}{k n:Nat}{a:Act}(h:gL s k n a):a.eval (.tmp k)=.string s:=by
 simp[Act.eval,Array.getD_eq_getD_getElem?,h.word]
theorem qK {a:Act}{t:Nat}{v:Value}(h:t<a.tmps.size):(a.put (some t) v).eval (.tmp t)=v:=by
 simp[Act.eval,Act.put,Array.getD_eq_getD_getElem?,h]
theorem aIS {P:Program}{Q:Exit→Act→World→Prop}{w:World}(T B:TypeId)(s c:ByteArray)(k n ta tc:Nat)(hta:ta≠k)(htc:tc≠k)(hna:ta<n)(hnc:tc<n)
  {rid:Nat} {p1 p2:String} {f1 f2:Array Edge} {a:Act} (hC:gL s k n a)
  (h:∀a',gL s k n a'→a'.eval (.tmp tc)=.bool (s.toList==c.toList)→Q .normal a' w) :
  (Code.region rid #[{ dst:=some ta,op:=Op.binOp BinOp.eql T (Operand.tmp k) (Operand.const (Value.string c)) T,type:=B,pos:=p1,after:=f1,guard:=none },
   { dst:=some tc,op:=Op.assign (Operand.tmp ta),type:=B,pos:=p2,after:=f2,guard:=none }] false).wp P Q a w:=by
 have h1:=hC.put ta (.bool (s.toList==c.toList)) hta;have e1:=qK (a:=a) (t:=ta) (v:=.bool (s.toList==c.toList)) (by rw[hC.size];exact hna);have h2:=h1.put tc (.bool (s.toList==c.toList)) htc;have e2:=qK (a:=a.put (some ta) (.bool (s.toList==c.toList))) (t:=tc) (v:=.bool (s.toList==c.toList)) (by rw[h1.size];exact hnc);have ev:=hC.eval;have ec:a.eval (.const (.string c))=.string c:=rfl;refine wp_region_lit (l:=[_,_]) ?_;refine wpList_plain rfl fun K hK=>?_
 have hx:=hK _ _ (wpList_plain (P:=P) (w:=w) (rest:=[]) (o:={ dst:=some tc,op:=Op.assign (Operand.tmp ta),type:=B,pos:=p2,after:=f2,guard:=none }) (a:=a.put (some ta) (.bool (s.toList==c.toList))) rfl fun K2 hK2=>by
  have:=hK2 _ _ (wpList_nil (h _ h2 e2));unfold Oper.wp;simp[execOp,e1,Oper.upon];exact this)
 unfold Oper.wp;simp[execOp,eqGuard,ev,ec,binOp_string_eql,Oper.upon];exact hx
theorem yN {P:Program}{Q:Exit→Act→World→Prop}{w:World}(T:TypeId)(s c:ByteArray)(k n:Nat)(hne:(s.toList==c.toList)=false)
  {B:TypeId} {ta tc:Nat} {rid:Nat} {p1 p2:String} {f1 f2:Array Edge} {a:Act} (hC:gL s k n a) (hta:(ta !=k&&tc !=k&&decide (ta<n)&&decide (tc<n))=true)
  (h:∀a',gL s k n a'→a'.eval (.tmp tc)=.bool false→Q .normal a' w) :
  (Code.region rid #[{ dst:=some ta,op:=Op.binOp BinOp.eql T (Operand.tmp k) (Operand.const (Value.string c)) T,type:=B,pos:=p1,after:=f1,guard:=none },
   { dst:=some tc,op:=Op.assign (Operand.tmp ta),type:=B,pos:=p2,after:=f2,guard:=none }] false).wp P Q a w:=by
 simp only[Bool.and_eq_true,bne_iff_ne,ne_eq,decide_eq_true_eq]at hta;exact aIS T B s c k n ta tc hta.1.1.1 hta.1.1.2 hta.1.2 hta.2 hC fun a' h1 h2=>h a' h1 (by rw[h2,hne])
theorem xS {P:Program}{Q:Exit→Act→World→Prop}{w:World}{s:ByteArray}{k n:Nat}{B:TypeId}{t:Nat}{v:Value}{rid:Nat}{p1:String}{f1:Array Edge}{a:Act}(hC:gL s k n a)(ht:(t !=k&&decide (t<n))=true)
  (h:∀a',gL s k n a'→a'.eval (.tmp t)=v→Q .normal a' w) :
  (Code.region rid #[{ dst:=some t,op:=Op.assign (Operand.const v),type:=B,pos:=p1,after:=f1,guard:=none }] false).wp P Q a w:=by
 simp only[Bool.and_eq_true,bne_iff_ne,ne_eq,decide_eq_true_eq]at ht;have h1:=hC.put t v ht.1;have e1:=qK (a:=a) (t:=t) (v:=v) (by rw[hC.size];exact ht.2);have ec:a.eval (.const v)=v:=rfl;refine wp_region_lit (l:=[_]) ?_;refine wpList_plain rfl fun K hK=>?_
 have hx:=hK _ _ (wpList_nil (h _ h1 e1));unfold Oper.wp;simp[execOp,ec,Oper.upon];exact hx
theorem aFn {P:Program}{Q:Exit→Act→World→Prop}{w:World}{s:ByteArray}{k n:Nat}{B:TypeId}{t:Nat}{rid:Nat}{p1:String}{f1:Array Edge}{a:Act}(hC:gL s k n a)(ht:decide (t<n)=true)
  (h:∀a',gL s t n a'→Q .normal a' w) :
  (Code.region rid #[{ dst:=some t,op:=Op.move (Operand.tmp k),type:=B,pos:=p1,after:=f1,guard:=none }] false).wp P Q a w:=by
 simp only[decide_eq_true_eq]at ht;have ev:=hC.eval;have h1:gL s t n (a.put (some t) (.string s)):=⟨by simp[Act.put,hC.size],by simp[Act.put,hC.size,ht],hC.defers⟩
 refine wp_region_lit (l:=[_]) ?_;refine wpList_plain rfl fun K hK=>?_
 have hx:=hK _ _ (wpList_nil (h _ h1));unfold Oper.wp;simp[execOp,ev,Oper.upon];exact hx
theorem lP {next:Act→World→Prop}{Q:Exit→Act→World→Prop}{a:Act}{w:World}(h:next a w):Exit.then next Q .normal a w:=h
theorem vA {id:Nat}{Q:Exit→Act→World→Prop}{a:Act}{w:World}(h:Q .normal a w):Exit.inBlock id Q .normal a w:=h
theorem aEk (s:ByteArray)(m:Nat):gL s 0 (m+1) { tmps:=#[Value.string s]++Array.replicate m undef,defers:=[] } :=
 ⟨by simp;omega,by rw[Array.getElem?_append_left (by simp)];rfl,rfl⟩
open Go.RowKit
theorem aD9 (bs:ByteArray):∀(k i:Nat) (r:List UInt8),bs.size-i=k→ByteArray.toList.loop bs i r=r.reverse++bs.data.toList.drop i:=by
 intro k;induction k with
 | zero =>
  intro i r h;rw[ByteArray.toList.loop,if_neg (by omega)];have hs:bs.data.toList.length=bs.size:=by simp
  rw[List.drop_eq_nil_of_le (by omega),List.append_nil]
 | succ k ih =>
  intro i r h;have hs:bs.data.toList.length=bs.size:=by simp
  rw[ByteArray.toList.loop,if_pos (by omega),ih _ _ (by omega)];rw[List.drop_eq_getElem_cons (i:=i) (by omega)];have e:bs.get! i=bs.data.toList[i]'(by omega):=by
   unfold ByteArray.get!;have:i<bs.data.size:=by simpa using (by omega:i<bs.size)
   exact getElem!_pos bs.data i this
  rw[e];simp
theorem toList_data (bs:ByteArray):bs.toList=bs.data.toList:=by
 unfold ByteArray.toList;rw[aD9 bs _ 0 [] rfl];simp
def KW (p:List UInt8 × Nat):Prop:=∀w:World,Calls Tryz.prog 24 #[.string ⟨p.1.toArray⟩] w fun e w'=>e=.returned (.int .i64 (p.2:Nat))∧w=w'
theorem aJh:∀p∈gB,KW p:=by
 unfold gB;repeat' (first|exact List.forall_mem_nil _|refine List.forall_mem_cons.2 ⟨?_,?_⟩)
 all_goals (unfold KW;intro w;dsimp only;go_enter Tryz.func24,Tryz.ntmps24;go_wp2;go_ret;exact⟨rfl,rfl⟩)
open Go.RowKit
theorem aEB {P:Program}{fn:Func}{t:Nat}{tmps:Array Value}{v:Value}(w:World)(h:fn.results=#[.tmp t])(hv:tmps.getD t undef=v):(results fn tmps).run P w=.ok v w:=by
 unfold results;rw[h];rw[Array.getD_eq_getD_getElem?]at hv
 simp[hv]
theorem aG9 (s:ByteArray)(hN:∀l:List UInt8,(gB.map (·.1)).contains l=true→(s.toList==(⟨l.toArray⟩:ByteArray).toList)=false)(w:World):Calls Tryz.prog 24 #[.string s] w fun e w'=>e=.returned (.int .i64 0)∧w=w':=by
 refine calls_of_wp Tryz.func24 rfl ?_;have hC:gL s 0 83 { tmps:=#[.string s]++Array.replicate (Tryz.f24.ntmps-(#[Value.string s]).size) undef,defers:=[] }:=aEk s 82;refine wp_seq (xS hC rfl ?_);clear hC;intro a hC _;refine wp_seq (wp_seq (aFn hC rfl ?_));clear hC;intro a hC;refine lP (wp_block ?_);repeat' (first
  | (refine yN 9 s _ 3 83 (hN _ (by decide +kernel)) hC rfl ?_;clear hC;intro a hC hb)
  | (with_reducible refine lP ?_)
  | (with_reducible refine vA ?_)
  | (with_reducible refine wp_cond_false hb ?_)
  | (with_reducible refine wp_seq ?_)
  | (with_reducible refine wp_skip ?_))
 refine xS hC rfl ?_;clear hC hb;intro a hC he;refine lP (wp_ret ?_);exact⟨hC.defers,.int .i64 0,aEB w rfl he,rfl,rfl⟩
theorem nI (s:ByteArray)(w:World):Calls Tryz.prog 24 #[.string s] w fun e w'=>e=.returned (.int .i64 (bR s.data.toList:Nat))∧w=w':=by
 by_cases h:s.data.toList∈gB.map (·.1)
 ·obtain⟨p,hp,e⟩:=List.mem_map.1 h;have hk:=aJh p hp w;rw[e]at hk
  rw[←e,(zB p hp).2];exact hk
 ·rw[tT _ h];refine aG9 s (fun l hl=>?_) w;rw[beq_eq_false_iff_ne];intro e;rw[toList_data,toList_data]at e
  apply h;have e2:s.data.toList=l:=e;rw[e2];simpa using hl
open Go.RowKit
def aV (s:ByteArray)(n:Int):Prop:=∀w,Calls Tryz.prog 24 #[.string s] w fun e w'=>e=.returned (.int .i64 n)∧w=w'
theorem aBp (s:ByteArray):aV s (bR s.data.toList:Nat):=fun w=>nI s w
theorem dP {a b:Bool}(h:a=b):Ending.returned (.bool a)=.returned (.bool b):=by rw[h]
theorem aM1 (p k:ByteArray)(K:Int)(b:Bool)(w:World)(hp:Hid (aV p 0))(hk:Hid (aV k K))(hb:Hid ((false)=b)) :
  Calls Tryz.prog 26 #[.string p,.string k] w fun e w'=>e=.returned (.bool b)∧w=w':=by
 go_enter Tryz.func26,Tryz.ntmps26
 go_wp2_with fail
 refine(hk.out _).mono ?_;rintro e w' ⟨rfl,rfl⟩;go_wp2_with fail
 refine(hp.out _).mono ?_;rintro e w' ⟨rfl,rfl⟩;go_wp2
 all_goals
  go_ret;refine⟨dP ?_,rfl⟩;first
   | (rw[←hb.out];done)
   | (rw[←hb.out,Bool.eq_iff_iff];simp;done)
   | (rw[←hb.out,Bool.eq_iff_iff];simp;omega)
   | (rw[←hb.out];simp_all;done)
theorem aM2 (p k:ByteArray)(K:Int)(b:Bool)(w:World)(hp:Hid (aV p 1))(hk:Hid (aV k K))(hb:Hid ((false)=b)) :
  Calls Tryz.prog 26 #[.string p,.string k] w fun e w'=>e=.returned (.bool b)∧w=w':=by
 go_enter Tryz.func26,Tryz.ntmps26
 go_wp2_with fail
 refine(hk.out _).mono ?_;rintro e w' ⟨rfl,rfl⟩;go_wp2_with fail
 refine(hp.out _).mono ?_;rintro e w' ⟨rfl,rfl⟩;go_wp2
 all_goals
  go_ret;refine⟨dP ?_,rfl⟩;first
   | (rw[←hb.out];done)
   | (rw[←hb.out,Bool.eq_iff_iff];simp;done)
   | (rw[←hb.out,Bool.eq_iff_iff];simp;omega)
   | (rw[←hb.out];simp_all;done)
theorem aM3 (p k:ByteArray)(K:Int)(b:Bool)(w:World)(hp:Hid (aV p 2))(hk:Hid (aV k K))(hb:Hid ((decide (2≤K)&&decide (K≤7)||decide (K=9))=b)) :
  Calls Tryz.prog 26 #[.string p,.string k] w fun e w'=>e=.returned (.bool b)∧w=w':=by
 go_enter Tryz.func26,Tryz.ntmps26
 go_wp2_with fail
 refine(hk.out _).mono ?_;rintro e w' ⟨rfl,rfl⟩;go_wp2_with fail
 refine(hp.out _).mono ?_;rintro e w' ⟨rfl,rfl⟩;go_wp2
 all_goals
  go_ret;refine⟨dP ?_,rfl⟩;first
   | (rw[←hb.out];done)
   | (rw[←hb.out,Bool.eq_iff_iff];simp;done)
   | (rw[←hb.out,Bool.eq_iff_iff];simp;omega)
   | (rw[←hb.out];simp_all;done)
theorem aM4 (p k:ByteArray)(K:Int)(b:Bool)(w:World)(hp:Hid (aV p 3))(hk:Hid (aV k K))(hb:Hid ((decide (K=4)||decide (K=5))=b)) :
  Calls Tryz.prog 26 #[.string p,.string k] w fun e w'=>e=.returned (.bool b)∧w=w':=by
 go_enter Tryz.func26,Tryz.ntmps26
 go_wp2_with fail
 refine(hk.out _).mono ?_;rintro e w' ⟨rfl,rfl⟩;go_wp2_with fail
 refine(hp.out _).mono ?_;rintro e w' ⟨rfl,rfl⟩;go_wp2
 all_goals
  go_ret;refine⟨dP ?_,rfl⟩;first
   | (rw[←hb.out];done)
   | (rw[←hb.out,Bool.eq_iff_iff];simp;done)
   | (rw[←hb.out,Bool.eq_iff_iff];simp;omega)
   | (rw[←hb.out];simp_all;done)
theorem aM5 (p k:ByteArray)(K:Int)(b:Bool)(w:World)(hp:Hid (aV p 4))(hk:Hid (aV k K))(hb:Hid ((decide (K=4)&&!(k.toList==p.toList)||decide (K=5))=b)) :
  Calls Tryz.prog 26 #[.string p,.string k] w fun e w'=>e=.returned (.bool b)∧w=w':=by
 go_enter Tryz.func26,Tryz.ntmps26
 go_wp2_with fail
 refine(hk.out _).mono ?_;rintro e w' ⟨rfl,rfl⟩;go_wp2_with fail
 refine(hp.out _).mono ?_;rintro e w' ⟨rfl,rfl⟩;go_wp2
 all_goals
  go_ret;refine⟨dP ?_,rfl⟩;first
   | (rw[←hb.out];done)
   | (rw[←hb.out,Bool.eq_iff_iff];simp;done)
   | (rw[←hb.out,Bool.eq_iff_iff];simp;omega)
   | (rw[←hb.out];simp_all;done)
theorem aM6 (p k:ByteArray)(K:Int)(b:Bool)(w:World)(hp:Hid (aV p 5))(hk:Hid (aV k K))(hb:Hid ((false)=b)) :
  Calls Tryz.prog 26 #[.string p,.string k] w fun e w'=>e=.returned (.bool b)∧w=w':=by
 go_enter Tryz.func26,Tryz.ntmps26
 go_wp2_with fail
 refine(hk.out _).mono ?_;rintro e w' ⟨rfl,rfl⟩;go_wp2_with fail
 refine(hp.out _).mono ?_;rintro e w' ⟨rfl,rfl⟩;go_wp2
 all_goals
  go_ret;refine⟨dP ?_,rfl⟩;first
   | (rw[←hb.out];done)
   | (rw[←hb.out,Bool.eq_iff_iff];simp;done)
   | (rw[←hb.out,Bool.eq_iff_iff];simp;omega)
   | (rw[←hb.out];simp_all;done)
theorem aM7 (p k:ByteArray)(K:Int)(b:Bool)(w:World)(hp:Hid (aV p 6))(hk:Hid (aV k K))(hb:Hid ((false)=b)) :
  Calls Tryz.prog 26 #[.string p,.string k] w fun e w'=>e=.returned (.bool b)∧w=w':=by
 go_enter Tryz.func26,Tryz.ntmps26
 go_wp2_with fail
 refine(hk.out _).mono ?_;rintro e w' ⟨rfl,rfl⟩;go_wp2_with fail
 refine(hp.out _).mono ?_;rintro e w' ⟨rfl,rfl⟩;go_wp2
 all_goals
  go_ret;refine⟨dP ?_,rfl⟩;first
   | (rw[←hb.out];done)
   | (rw[←hb.out,Bool.eq_iff_iff];simp;done)
   | (rw[←hb.out,Bool.eq_iff_iff];simp;omega)
   | (rw[←hb.out];simp_all;done)
theorem aM8 (p k:ByteArray)(K:Int)(b:Bool)(w:World)(hp:Hid (aV p 7))(hk:Hid (aV k K))(hb:Hid ((decide (K=8))=b)) :
  Calls Tryz.prog 26 #[.string p,.string k] w fun e w'=>e=.returned (.bool b)∧w=w':=by
 go_enter Tryz.func26,Tryz.ntmps26
 go_wp2_with fail
 refine(hk.out _).mono ?_;rintro e w' ⟨rfl,rfl⟩;go_wp2_with fail
 refine(hp.out _).mono ?_;rintro e w' ⟨rfl,rfl⟩;go_wp2
 all_goals
  go_ret;refine⟨dP ?_,rfl⟩;first
   | (rw[←hb.out];done)
   | (rw[←hb.out,Bool.eq_iff_iff];simp;done)
   | (rw[←hb.out,Bool.eq_iff_iff];simp;omega)
   | (rw[←hb.out];simp_all;done)
theorem aM9 (p k:ByteArray)(K:Int)(b:Bool)(w:World)(hp:Hid (aV p 8))(hk:Hid (aV k K))(hb:Hid ((decide (2≤K)&&decide (K≤7)||decide (K=9))=b)) :
  Calls Tryz.prog 26 #[.string p,.string k] w fun e w'=>e=.returned (.bool b)∧w=w':=by
 go_enter Tryz.func26,Tryz.ntmps26
 go_wp2_with fail
 refine(hk.out _).mono ?_;rintro e w' ⟨rfl,rfl⟩;go_wp2_with fail
 refine(hp.out _).mono ?_;rintro e w' ⟨rfl,rfl⟩;go_wp2
 all_goals
  go_ret;refine⟨dP ?_,rfl⟩;first
   | (rw[←hb.out];done)
   | (rw[←hb.out,Bool.eq_iff_iff];simp;done)
   | (rw[←hb.out,Bool.eq_iff_iff];simp;omega)
   | (rw[←hb.out];simp_all;done)
theorem aNa (p k:ByteArray)(K:Int)(b:Bool)(w:World)(hp:Hid (aV p 9))(hk:Hid (aV k K))(hb:Hid ((decide (K=10)||decide (K=11))=b)) :
  Calls Tryz.prog 26 #[.string p,.string k] w fun e w'=>e=.returned (.bool b)∧w=w':=by
 go_enter Tryz.func26,Tryz.ntmps26
 go_wp2_with fail
 refine(hk.out _).mono ?_;rintro e w' ⟨rfl,rfl⟩;go_wp2_with fail
 refine(hp.out _).mono ?_;rintro e w' ⟨rfl,rfl⟩;go_wp2
 all_goals
  go_ret;refine⟨dP ?_,rfl⟩;first
   | (rw[←hb.out];done)
   | (rw[←hb.out,Bool.eq_iff_iff];simp;done)
   | (rw[←hb.out,Bool.eq_iff_iff];simp;omega)
   | (rw[←hb.out];simp_all;done)
theorem aMn (p k:ByteArray)(K:Int)(b:Bool)(w:World)(hp:Hid (aV p 10))(hk:Hid (aV k K))(hb:Hid ((decide (K=4)||decide (K=5))=b)) :
  Calls Tryz.prog 26 #[.string p,.string k] w fun e w'=>e=.returned (.bool b)∧w=w':=by
 go_enter Tryz.func26,Tryz.ntmps26
 go_wp2_with fail
 refine(hk.out _).mono ?_;rintro e w' ⟨rfl,rfl⟩;go_wp2_with fail
 refine(hp.out _).mono ?_;rintro e w' ⟨rfl,rfl⟩;go_wp2
 all_goals
  go_ret;refine⟨dP ?_,rfl⟩;first
   | (rw[←hb.out];done)
   | (rw[←hb.out,Bool.eq_iff_iff];simp;done)
   | (rw[←hb.out,Bool.eq_iff_iff];simp;omega)
   | (rw[←hb.out];simp_all;done)
theorem aMo (p k:ByteArray)(K:Int)(b:Bool)(w:World)(hp:Hid (aV p 11))(hk:Hid (aV k K))(hb:Hid ((decide (K=12))=b)) :
  Calls Tryz.prog 26 #[.string p,.string k] w fun e w'=>e=.returned (.bool b)∧w=w':=by
 go_enter Tryz.func26,Tryz.ntmps26
 go_wp2_with fail
 refine(hk.out _).mono ?_;rintro e w' ⟨rfl,rfl⟩;go_wp2_with fail
 refine(hp.out _).mono ?_;rintro e w' ⟨rfl,rfl⟩;go_wp2
 all_goals
  go_ret;refine⟨dP ?_,rfl⟩;first
   | (rw[←hb.out];done)
   | (rw[←hb.out,Bool.eq_iff_iff];simp;done)
   | (rw[←hb.out,Bool.eq_iff_iff];simp;omega)
   | (rw[←hb.out];simp_all;done)
theorem aMp (p k:ByteArray)(K:Int)(b:Bool)(w:World)(hp:Hid (aV p 12))(hk:Hid (aV k K))(hb:Hid ((decide (K=13))=b)) :
  Calls Tryz.prog 26 #[.string p,.string k] w fun e w'=>e=.returned (.bool b)∧w=w':=by
 go_enter Tryz.func26,Tryz.ntmps26
 go_wp2_with fail
 refine(hk.out _).mono ?_;rintro e w' ⟨rfl,rfl⟩;go_wp2_with fail
 refine(hp.out _).mono ?_;rintro e w' ⟨rfl,rfl⟩;go_wp2
 all_goals
  go_ret;refine⟨dP ?_,rfl⟩;first
   | (rw[←hb.out];done)
   | (rw[←hb.out,Bool.eq_iff_iff];simp;done)
   | (rw[←hb.out,Bool.eq_iff_iff];simp;omega)
   | (rw[←hb.out];simp_all;done)
theorem aMq (p k:ByteArray)(K:Int)(b:Bool)(w:World)(hp:Hid (aV p 13))(hk:Hid (aV k K))(hb:Hid ((decide (2≤K)&&decide (K≤7)||decide (K=9))=b)) :
  Calls Tryz.prog 26 #[.string p,.string k] w fun e w'=>e=.returned (.bool b)∧w=w':=by
 go_enter Tryz.func26,Tryz.ntmps26
 go_wp2_with fail
 refine(hk.out _).mono ?_;rintro e w' ⟨rfl,rfl⟩;go_wp2_with fail
 refine(hp.out _).mono ?_;rintro e w' ⟨rfl,rfl⟩;go_wp2
 all_goals
  go_ret;refine⟨dP ?_,rfl⟩;first
   | (rw[←hb.out];done)
   | (rw[←hb.out,Bool.eq_iff_iff];simp;done)
   | (rw[←hb.out,Bool.eq_iff_iff];simp;omega)
   | (rw[←hb.out];simp_all;done)
theorem aMr (p k:ByteArray)(K:Int)(b:Bool)(w:World)(hp:Hid (aV p 14))(hk:Hid (aV k K))(hb:Hid ((decide (2≤K)&&decide (K≤7)||decide (K=9))=b)) :
  Calls Tryz.prog 26 #[.string p,.string k] w fun e w'=>e=.returned (.bool b)∧w=w':=by
 go_enter Tryz.func26,Tryz.ntmps26
 go_wp2_with fail
 refine(hk.out _).mono ?_;rintro e w' ⟨rfl,rfl⟩;go_wp2_with fail
 refine(hp.out _).mono ?_;rintro e w' ⟨rfl,rfl⟩;go_wp2
 all_goals
  go_ret;refine⟨dP ?_,rfl⟩;first
   | (rw[←hb.out];done)
   | (rw[←hb.out,Bool.eq_iff_iff];simp;done)
   | (rw[←hb.out,Bool.eq_iff_iff];simp;omega)
   | (rw[←hb.out];simp_all;done)
theorem aE3 (p k:ByteArray)(w:World):Calls Tryz.prog 26 #[.string p,.string k] w fun e w'=>e=.returned (.bool (rP p.data.toList k.data.toList))∧w=w':=by
 have hp:=aBp p;have hk:=aBp k;have hs:(k.toList==p.toList)=(k.data.toList==p.data.toList):=by rw[toList_data,toList_data]
 have lp:=nH p.data.toList;unfold rP;rw[←hs];generalize bR k.data.toList=K at hk;generalize bR p.data.toList=P at hp lp;have key:∀(n:Nat) (f:Bool),P=n→f=iL n K (k.toList==p.toList)→(∀b,Hid (aV p n)→Hid (aV k (K:Nat))→Hid (f=b)→Calls Tryz.prog 26 #[.string p,.string k] w fun e w'=>e=.returned (.bool b)∧w=w')→Calls Tryz.prog 26 #[.string p,.string k] w fun e w'=>e=.returned (.bool (iL P K (k.toList==p.toList)))∧w=w':=by
  intro n f hn hf h;subst hn;exact h _ (hid hp) (hid hk) (hid hf)
 have hP:P=0∨P=1∨P=2∨P=3∨P=4∨P=5∨P=6∨P=7∨P=8∨P=9∨P=10∨P=11∨P=12∨P=13∨P=14:=by omega
 rcases hP with h|h|h|h|h|h|h|h|h|h|h|h|h|h|h
 ·exact key 0 _ h (by simp only[iL];rw[Bool.eq_iff_iff];simp;try omega) fun b a1 a2 a3=>aM1 p k _ b w a1 a2 a3
 ·exact key 1 _ h (by simp only[iL];rw[Bool.eq_iff_iff];simp;try omega) fun b a1 a2 a3=>aM2 p k _ b w a1 a2 a3
 ·exact key 2 _ h (by simp only[iL];rw[Bool.eq_iff_iff];simp;try omega) fun b a1 a2 a3=>aM3 p k _ b w a1 a2 a3
 ·exact key 3 _ h (by simp only[iL];rw[Bool.eq_iff_iff];simp;try omega) fun b a1 a2 a3=>aM4 p k _ b w a1 a2 a3
 ·exact key 4 _ h (by simp only[iL];rw[Bool.eq_iff_iff];simp;rw[show((K:Nat):Int)=4↔K=4 by omega,show((K:Nat):Int)=5↔K=5 by omega]) fun b a1 a2 a3=>aM5 p k _ b w a1 a2 a3
 ·exact key 5 _ h (by simp only[iL];rw[Bool.eq_iff_iff];simp;try omega) fun b a1 a2 a3=>aM6 p k _ b w a1 a2 a3
 ·exact key 6 _ h (by simp only[iL];rw[Bool.eq_iff_iff];simp;try omega) fun b a1 a2 a3=>aM7 p k _ b w a1 a2 a3
 ·exact key 7 _ h (by simp only[iL];rw[Bool.eq_iff_iff];simp;try omega) fun b a1 a2 a3=>aM8 p k _ b w a1 a2 a3
 ·exact key 8 _ h (by simp only[iL];rw[Bool.eq_iff_iff];simp;try omega) fun b a1 a2 a3=>aM9 p k _ b w a1 a2 a3
 ·exact key 9 _ h (by simp only[iL];rw[Bool.eq_iff_iff];simp;try omega) fun b a1 a2 a3=>aNa p k _ b w a1 a2 a3
 ·exact key 10 _ h (by simp only[iL];rw[Bool.eq_iff_iff];simp;try omega) fun b a1 a2 a3=>aMn p k _ b w a1 a2 a3
 ·exact key 11 _ h (by simp only[iL];rw[Bool.eq_iff_iff];simp;try omega) fun b a1 a2 a3=>aMo p k _ b w a1 a2 a3
 ·exact key 12 _ h (by simp only[iL];rw[Bool.eq_iff_iff];simp;try omega) fun b a1 a2 a3=>aMp p k _ b w a1 a2 a3
 ·exact key 13 _ h (by simp only[iL];rw[Bool.eq_iff_iff];simp;try omega) fun b a1 a2 a3=>aMq p k _ b w a1 a2 a3
 ·exact key 14 _ h (by simp only[iL];rw[Bool.eq_iff_iff];simp;try omega) fun b a1 a2 a3=>aMr p k _ b w a1 a2 a3
theorem aLv (p:ByteArray)(w:World)(hp:Hid (aV p 0)) :
  Calls Tryz.prog 28 #[.string p] w fun e w'=>e=.returned (.bool false)∧w=w':=by
 go_enter Tryz.func28,Tryz.ntmps28
 go_wp2_with fail
 refine(hp.out _).mono ?_;rintro e w' ⟨rfl,rfl⟩;go_wp2
 go_ret;exact⟨rfl,rfl⟩
theorem aLw (p:ByteArray)(w:World)(hp:Hid (aV p 1)) :
  Calls Tryz.prog 28 #[.string p] w fun e w'=>e=.returned (.bool false)∧w=w':=by
 go_enter Tryz.func28,Tryz.ntmps28
 go_wp2_with fail
 refine(hp.out _).mono ?_;rintro e w' ⟨rfl,rfl⟩;go_wp2
 go_ret;exact⟨rfl,rfl⟩
theorem aLx (p:ByteArray)(w:World)(hp:Hid (aV p 2)) :
  Calls Tryz.prog 28 #[.string p] w fun e w'=>e=.returned (.bool true)∧w=w':=by
 go_enter Tryz.func28,Tryz.ntmps28
 go_wp2_with fail
 refine(hp.out _).mono ?_;rintro e w' ⟨rfl,rfl⟩;go_wp2
 go_ret;exact⟨rfl,rfl⟩
theorem aLy (p:ByteArray)(w:World)(hp:Hid (aV p 3)) :
  Calls Tryz.prog 28 #[.string p] w fun e w'=>e=.returned (.bool true)∧w=w':=by
 go_enter Tryz.func28,Tryz.ntmps28
 go_wp2_with fail
 refine(hp.out _).mono ?_;rintro e w' ⟨rfl,rfl⟩;go_wp2
 go_ret;exact⟨rfl,rfl⟩
theorem aLz (p:ByteArray)(w:World)(hp:Hid (aV p 4)) :
  Calls Tryz.prog 28 #[.string p] w fun e w'=>e=.returned (.bool true)∧w=w':=by
 go_enter Tryz.func28,Tryz.ntmps28
 go_wp2_with fail
 refine(hp.out _).mono ?_;rintro e w' ⟨rfl,rfl⟩;go_wp2
 go_ret;exact⟨rfl,rfl⟩
theorem aLA (p:ByteArray)(w:World)(hp:Hid (aV p 5)) :
  Calls Tryz.prog 28 #[.string p] w fun e w'=>e=.returned (.bool false)∧w=w':=by
 go_enter Tryz.func28,Tryz.ntmps28
 go_wp2_with fail
 refine(hp.out _).mono ?_;rintro e w' ⟨rfl,rfl⟩;go_wp2
 go_ret;exact⟨rfl,rfl⟩
theorem aLB (p:ByteArray)(w:World)(hp:Hid (aV p 6)) :
  Calls Tryz.prog 28 #[.string p] w fun e w'=>e=.returned (.bool false)∧w=w':=by
 go_enter Tryz.func28,Tryz.ntmps28
 go_wp2_with fail
 refine(hp.out _).mono ?_;rintro e w' ⟨rfl,rfl⟩;go_wp2
 go_ret;exact⟨rfl,rfl⟩
theorem aLC (p:ByteArray)(w:World)(hp:Hid (aV p 7)) :
  Calls Tryz.prog 28 #[.string p] w fun e w'=>e=.returned (.bool false)∧w=w':=by
 go_enter Tryz.func28,Tryz.ntmps28
 go_wp2_with fail
 refine(hp.out _).mono ?_;rintro e w' ⟨rfl,rfl⟩;go_wp2
 go_ret;exact⟨rfl,rfl⟩
theorem aLD (p:ByteArray)(w:World)(hp:Hid (aV p 8)) :
  Calls Tryz.prog 28 #[.string p] w fun e w'=>e=.returned (.bool true)∧w=w':=by
 go_enter Tryz.func28,Tryz.ntmps28
 go_wp2_with fail
 refine(hp.out _).mono ?_;rintro e w' ⟨rfl,rfl⟩;go_wp2
 go_ret;exact⟨rfl,rfl⟩
theorem aLE (p:ByteArray)(w:World)(hp:Hid (aV p 9)) :
  Calls Tryz.prog 28 #[.string p] w fun e w'=>e=.returned (.bool false)∧w=w':=by
 go_enter Tryz.func28,Tryz.ntmps28
 go_wp2_with fail
 refine(hp.out _).mono ?_;rintro e w' ⟨rfl,rfl⟩;go_wp2
 go_ret;exact⟨rfl,rfl⟩
theorem aJQ (p:ByteArray)(w:World)(hp:Hid (aV p 10)) :
  Calls Tryz.prog 28 #[.string p] w fun e w'=>e=.returned (.bool true)∧w=w':=by
 go_enter Tryz.func28,Tryz.ntmps28
 go_wp2_with fail
 refine(hp.out _).mono ?_;rintro e w' ⟨rfl,rfl⟩;go_wp2
 go_ret;exact⟨rfl,rfl⟩
theorem aJR (p:ByteArray)(w:World)(hp:Hid (aV p 11)) :
  Calls Tryz.prog 28 #[.string p] w fun e w'=>e=.returned (.bool false)∧w=w':=by
 go_enter Tryz.func28,Tryz.ntmps28
 go_wp2_with fail
 refine(hp.out _).mono ?_;rintro e w' ⟨rfl,rfl⟩;go_wp2
 go_ret;exact⟨rfl,rfl⟩
theorem aJS (p:ByteArray)(w:World)(hp:Hid (aV p 12)) :
  Calls Tryz.prog 28 #[.string p] w fun e w'=>e=.returned (.bool false)∧w=w':=by
 go_enter Tryz.func28,Tryz.ntmps28
 go_wp2_with fail
 refine(hp.out _).mono ?_;rintro e w' ⟨rfl,rfl⟩;go_wp2
 go_ret;exact⟨rfl,rfl⟩
theorem aJT (p:ByteArray)(w:World)(hp:Hid (aV p 13)) :
  Calls Tryz.prog 28 #[.string p] w fun e w'=>e=.returned (.bool true)∧w=w':=by
 go_enter Tryz.func28,Tryz.ntmps28
 go_wp2_with fail
 refine(hp.out _).mono ?_;rintro e w' ⟨rfl,rfl⟩;go_wp2
 go_ret;exact⟨rfl,rfl⟩
theorem aJU (p:ByteArray)(w:World)(hp:Hid (aV p 14)) :
  Calls Tryz.prog 28 #[.string p] w fun e w'=>e=.returned (.bool true)∧w=w':=by
 go_enter Tryz.func28,Tryz.ntmps28
 go_wp2_with fail
 refine(hp.out _).mono ?_;rintro e w' ⟨rfl,rfl⟩;go_wp2
 go_ret;exact⟨rfl,rfl⟩
theorem aCh (p:ByteArray)(w:World):Calls Tryz.prog 28 #[.string p] w fun e w'=>e=.returned (.bool (lO p.data.toList))∧w=w':=by
 have hp:=aBp p;have lp:=nH p.data.toList;unfold lO;generalize bR p.data.toList=P at hp lp;have hP:P=0∨P=1∨P=2∨P=3∨P=4∨P=5∨P=6∨P=7∨P=8∨P=9∨P=10∨P=11∨P=12∨P=13∨P=14:=by omega
 rcases hP with rfl|rfl|rfl|rfl|rfl|rfl|rfl|rfl|rfl|rfl|rfl|rfl|rfl|rfl|rfl
 ·exact aLv p w (hid hp)
 ·exact aLw p w (hid hp)
 ·exact aLx p w (hid hp)
 ·exact aLy p w (hid hp)
 ·exact aLz p w (hid hp)
 ·exact aLA p w (hid hp)
 ·exact aLB p w (hid hp)
 ·exact aLC p w (hid hp)
 ·exact aLD p w (hid hp)
 ·exact aLE p w (hid hp)
 ·exact aJQ p w (hid hp)
 ·exact aJR p w (hid hp)
 ·exact aJS p w (hid hp)
 ·exact aJT p w (hid hp)
 ·exact aJU p w (hid hp)
