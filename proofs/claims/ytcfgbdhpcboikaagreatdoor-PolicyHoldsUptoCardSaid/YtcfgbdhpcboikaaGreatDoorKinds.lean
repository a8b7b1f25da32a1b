/-
The kinds of elements, by name: the program's table and the document's lists. No program in sight.
-/
import Derived.WalkKit
import Derived.Lib.Hide
import Derived.Test.YtcfgbdhpcboikaaGreatDoorProg
namespace Go.Proofs.YtcfgbdhpcboikaaGreatDoor
open Go.Lib (hid)
set_option maxHeartbeats 16000000
set_option maxRecDepth 100000
def eS:List (List UInt8 × Nat):=[([98,111,100,121],14),
 ([100,105,118],2),
 ([98,108,111,99,107,113,117,111,116,101],2),
 ([112],3),
 ([104,49],3),
 ([104,50],3),
 ([104,51],3),
 ([104,52],3),
 ([104,53],3),
 ([104,54],3),
 ([112,114,101],3),
 ([97],4),
 ([98],4),
 ([99,111,100,101],4),
 ([101,109],4),
 ([105],4),
 ([109,101,116,101,114],4),
 ([112,114,111,103,114,101,115,115],4),
 ([115],4),
 ([115,109,97,108,108],4),
 ([115,112,97,110],4),
 ([115,116,114,111,110,103],4),
 ([115,117,98],4),
 ([115,117,112],4),
 ([117],4),
 ([98,114],5),
 ([105,109,103],5),
 ([104,114],6),
 ([111,108],7),
 ([117,108],7),
 ([108,105],8),
 ([116,97,98,108,101],9),
 ([99,97,112,116,105,111,110],10),
 ([116,98,111,100,121],11),
 ([116,102,111,111,116],11),
 ([116,104,101,97,100],11),
 ([116,114],12),
 ([116,100],13),
 ([116,104],13),
 ([97,112,112,108,101,116],1),
 ([97,117,100,105,111],1),
 ([98,97,115,101],1),
 ([98,117,116,116,111,110],1),
 ([99,97,110,118,97,115],1),
 ([101,109,98,101,100],1),
 ([102,114,97,109,101],1),
 ([102,114,97,109,101,115,101,116],1),
 ([104,101,97,100],1),
 ([105,102,114,97,109,101],1),
 ([105,110,112,117,116],1),
 ([108,105,110,107],1),
 ([109,101,116,97],1),
 ([110,111,101,109,98,101,100],1),
 ([110,111,102,114,97,109,101,115],1),
 ([111,98,106,101,99,116],1),
 ([111,112,116,105,111,110],1),
 ([112,97,114,97,109],1),
 ([115,99,114,105,112,116],1),
 ([115,101,108,101,99,116],1),
 ([115,116,121,108,101],1),
 ([116,101,109,112,108,97,116,101],1),
 ([116,101,120,116,97,114,101,97],1),
 ([116,105,116,108,101],1),
 ([118,105,100,101,111],1),
 ([120,109,112],1)]
def bU:List (List UInt8):=[[],
 [97,112,112,108,101,116,32,97,117,100,105,111,32,98,97,115,101,32,98,117,116,116,111,110,32,99,97,110,118,97,115,32,101,109,98,101,100,32,102,114,97,109,101,32,102,114,97,109,101,115,101,116,32,104,101,97,100,32,105,102,114,97,109,101,32,105,110,112,117,116,32,108,105,110,107,32,109,101,116,97,32,110,111,101,109,98,101,100,32,110,111,102,114,97,109,101,115,32,111,98,106,101,99,116,32,111,112,116,105,111,110,32,112,97,114,97,109,32,115,99,114,105,112,116,32,115,101,108,101,99,116,32,115,116,121,108,101,32,116,101,109,112,108,97,116,101,32,116,101,120,116,97,114,101,97,32,116,105,116,108,101,32,118,105,100,101,111,32,120,109,112],
 [100,105,118,32,98,108,111,99,107,113,117,111,116,101],
 [112,32,104,49,32,104,50,32,104,51,32,104,52,32,104,53,32,104,54,32,112,114,101],
 [97,32,98,32,99,111,100,101,32,101,109,32,105,32,109,101,116,101,114,32,112,114,111,103,114,101,115,115,32,115,32,115,109,97,108,108,32,115,112,97,110,32,115,116,114,111,110,103,32,115,117,98,32,115,117,112,32,117],
 [98,114,32,105,109,103],
 [104,114],
 [111,108,32,117,108],
 [108,105],
 [116,97,98,108,101],
 [99,97,112,116,105,111,110],
 [116,98,111,100,121,32,116,102,111,111,116,32,116,104,101,97,100],
 [116,114],
 [116,100,32,116,104],
 [98,111,100,121]]
def aW (n:List UInt8):Nat:=((eS.find? fun p=>p.1==n).map (·.2)).getD 0
def dR:List UInt8→List UInt8→List (List UInt8)
 | cur,[]=>if cur.isEmpty then []else [cur]
 | cur,c :: l=>if c=32 then (if cur.isEmpty then dR [] l else cur :: dR [] l)else dR (cur++[c]) l
def wE (l:List UInt8):List (List UInt8):=dR [] l
def inB (w l:List UInt8):Bool:=(wE l).contains w
def qM (n:List UInt8):List (List UInt8)→Nat→Nat
 | [],_=>0
 | l :: r,i=>if inB n l then i else qM n r (i+1)
theorem aLE (n:List UInt8)(ls:List (List UInt8))(i:Nat)(h:∀l∈ls,inB n l=false):qM n ls i=0:=by
 induction ls generalizing i with
 | nil=>rfl
 | cons l r ih =>
  unfold qM;rw[h l (List.mem_cons_self ..)];exact ih (i+1) fun x hx=>h x (List.mem_cons_of_mem _ hx)
theorem vK:∀p∈eS,qM p.1 bU 0=p.2∧aW p.1=p.2:=by decide +kernel
theorem aFM:∀l∈bU,∀w∈wE l,w∈eS.map (·.1):=by decide +kernel
theorem vJ (n:List UInt8)(h:n∉eS.map (·.1)):aW n=0:=by
 unfold aW;have:(eS.find? fun p=>p.1==n)=none:=by
  rw[List.find?_eq_none];intro p hp he;apply h;have e:p.1=n:=by simpa using he
  rw[←e];exact List.mem_map_of_mem hp
 rw[this];rfl
theorem aJo (n:List UInt8):qM n bU 0=aW n:=by
 by_cases h:n∈eS.map (·.1)
 ·obtain⟨p,hp,rfl⟩:=List.mem_map.1 h;rw[(vK p hp).1,(vK p hp).2]
 ·rw[vJ n h,aLE];intro l hl;unfold inB;rw[Bool.eq_false_iff];intro hc;exact h (aFM l hl n (by simpa using hc))
theorem rN (n:List UInt8):aW n≤14:=by
 by_cases h:n∈eS.map (·.1)
 ·obtain⟨p,hp,rfl⟩:=List.mem_map.1 h;rw[(vK p hp).2];have:∀p∈eS,p.2≤14:=by decide +kernel
  exact this p hp
 ·rw[vJ n h];omega
def jR (p k:Nat)(same:Bool):Bool :=
 if p=14∨p=2∨p=8∨p=13 then decide (2≤k)&&decide (k≤7)||decide (k=9)
 else if p=3∨p=10 then decide (k=4)||decide (k=5)
 else if p=4 then decide (k=4)&&!same||decide (k=5)
 else if p=7 then decide (k=8)
 else if p=9 then decide (k=10)||decide (k=11)
 else if p=11 then decide (k=12)
 else if p=12 then decide (k=13)
 else false
def rM (p:Nat):Nat :=
 if p=2∨p=8∨p=13∨p=14 then 765 else if p=3∨p=4∨p=10 then 49 else if p=7 then 256 else if p=9 then 3072 else if p=11 then 4096 else if p=12 then 8192 else 0
def aKr (p:Nat):Bool:=decide (p=14∨p=2∨p=8∨p=13∨p=3∨p=10∨p=4)
def mY (p k:List UInt8):Bool:=jR (aW p) (aW k) (k==p)
def mI (p:List UInt8):Bool:=aKr (aW p)
theorem aLR:∀p<15,∀k<15,∀b:Bool,(b=true→p=k)→(decide (0<k)&&decide (rM p / 2^k%2=1)&&!(decide (k=4)&&b))=jR p k b:=by decide +kernel
theorem aH3:∀p<15,decide (rM p%2=1)=aKr p:=by decide +kernel
open Go.RowKit
structure gT (s:ByteArray) (k n:Nat) (a:Act):Prop where
 size:a.tmps.size=n
 word:a.tmps[k]?=some (.string s)
 defers:a.defers=[]
theorem gT.put {s:ByteArray}{k n:Nat}{a:Act}(h:gT s k n a)(t:Nat)(v:Value)(ht:t≠k):gT s k n (a.put (some t) v) :=
 ⟨by simp[Act.put,h.size],by simp[Act.put,ht,h.word],h.defers⟩
theorem gT.eval {s:ByteArray}{k n:Nat}{a:Act}(h:gT s k n a):a.eval (.tmp k)=.string s:=by
 simp[Act.eval,Array.getD_eq_getD_getElem?,h.word]
theorem rK {a:Act}{t:Nat}{v:Value}(h:t<a.tmps.size):(a.put (some t) v).eval (.tmp t)=v:=by
 simp[Act.eval,Act.put,Array.getD_eq_getD_getElem?,h]
theorem aLa {P:Program}{Q:Exit→Act→World→Prop}{w:World}(T B:TypeId)(s c:ByteArray)(k n ta tc:Nat)(hta:ta≠k)(htc:tc≠k)(hna:ta<n)(hnc:tc<n)
  {rid:Nat} {p1 p2:String} {f1 f2:Array Edge} {a:Act} (hC:gT s k n a)
  (h:∀a',gT s k n a'→a'.eval (.tmp tc)=.bool (s.toList==c.toList)→Q .normal a' w) :
  (Code.region rid #[{ dst:=some ta,op:=Op.binOp BinOp.eql T (Operand.tmp k) (Operand.const (Value.string c)) T,type:=B,pos:=p1,after:=f1,guard:=none },
   { dst:=some tc,op:=Op.assign (Operand.tmp ta),type:=B,pos:=p2,after:=f2,guard:=none }] false).wp P Q a w:=by
 have h1:=hC.put ta (.bool (s.toList==c.toList)) hta;have e1:=rK (a:=a) (t:=ta) (v:=.bool (s.toList==c.toList)) (by rw[hC.size];exact hna);have h2:=h1.put tc (.bool (s.toList==c.toList)) htc;have e2:=rK (a:=a.put (some ta) (.bool (s.toList==c.toList))) (t:=tc) (v:=.bool (s.toList==c.toList)) (by rw[h1.size];exact hnc);have ev:=hC.eval;have ec:a.eval (.const (.string c))=.string c:=rfl;refine wp_region_lit (l:=[_,_]) ?_;refine wpList_plain rfl fun K hK=>?_
 have hx:=hK _ _ (wpList_plain (P:=P) (w:=w) (rest:=[]) (o:={ dst:=some tc,op:=Op.assign (Operand.tmp ta),type:=B,pos:=p2,after:=f2,guard:=none }) (a:=a.put (some ta) (.bool (s.toList==c.toList))) rfl fun K2 hK2=>by
  have:=hK2 _ _ (wpList_nil (h _ h2 e2));unfold Oper.wp;simp[execOp,e1,Oper.upon];exact this)
 unfold Oper.wp;simp[execOp,eqGuard,ev,ec,binOp_string_eql,Oper.upon];exact hx
theorem aAp {P:Program}{Q:Exit→Act→World→Prop}{w:World}(T:TypeId)(s c:ByteArray)(k n:Nat)(hne:(s.toList==c.toList)=false)
  {B:TypeId} {ta tc:Nat} {rid:Nat} {p1 p2:String} {f1 f2:Array Edge} {a:Act} (hC:gT s k n a) (hta:(ta !=k&&tc !=k&&decide (ta<n)&&decide (tc<n))=true)
  (h:∀a',gT s k n a'→a'.eval (.tmp tc)=.bool false→Q .normal a' w) :
  (Code.region rid #[{ dst:=some ta,op:=Op.binOp BinOp.eql T (Operand.tmp k) (Operand.const (Value.string c)) T,type:=B,pos:=p1,after:=f1,guard:=none },
   { dst:=some tc,op:=Op.assign (Operand.tmp ta),type:=B,pos:=p2,after:=f2,guard:=none }] false).wp P Q a w:=by
 simp only[Bool.and_eq_true,bne_iff_ne,ne_eq,decide_eq_true_eq]at hta;exact aLa T B s c k n ta tc hta.1.1.1 hta.1.1.2 hta.1.2 hta.2 hC fun a' h1 h2=>h a' h1 (by rw[h2,hne])
theorem zV {P:Program}{Q:Exit→Act→World→Prop}{w:World}{s:ByteArray}{k n:Nat}{B:TypeId}{t:Nat}{v:Value}{rid:Nat}{p1:String}{f1:Array Edge}{a:Act}(hC:gT s k n a)(ht:(t !=k&&decide (t<n))=true)
  (h:∀a',gT s k n a'→a'.eval (.tmp t)=v→Q .normal a' w) :
  (Code.region rid #[{ dst:=some t,op:=Op.assign (Operand.const v),type:=B,pos:=p1,after:=f1,guard:=none }] false).wp P Q a w:=by
 simp only[Bool.and_eq_true,bne_iff_ne,ne_eq,decide_eq_true_eq]at ht;have h1:=hC.put t v ht.1;have e1:=rK (a:=a) (t:=t) (v:=v) (by rw[hC.size];exact ht.2);have ec:a.eval (.const v)=v:=rfl;refine wp_region_lit (l:=[_]) ?_;refine wpList_plain rfl fun K hK=>?_
 have hx:=hK _ _ (wpList_nil (h _ h1 e1));unfold Oper.wp;simp[execOp,ec,Oper.upon];exact hx
theorem aG9 {P:Program}{Q:Exit→Act→World→Prop}{w:World}{s:ByteArray}{k n:Nat}{B:TypeId}{t:Nat}{rid:Nat}{p1:String}{f1:Array Edge}{a:Act}(hC:gT s k n a)(ht:decide (t<n)=true)
  (h:∀a',gT s t n a'→Q .normal a' w) :
  (Code.region rid #[{ dst:=some t,op:=Op.move (Operand.tmp k),type:=B,pos:=p1,after:=f1,guard:=none }] false).wp P Q a w:=by
 simp only[decide_eq_true_eq]at ht;have ev:=hC.eval;have h1:gT s t n (a.put (some t) (.string s)):=⟨by simp[Act.put,hC.size],by simp[Act.put,hC.size,ht],hC.defers⟩
 refine wp_region_lit (l:=[_]) ?_;refine wpList_plain rfl fun K hK=>?_
 have hx:=hK _ _ (wpList_nil (h _ h1));unfold Oper.wp;simp[execOp,ev,Oper.upon];exact hx
theorem mJ {next:Act→World→Prop}{Q:Exit→Act→World→Prop}{a:Act}{w:World}(h:next a w):Exit.then next Q .normal a w:=h
theorem wV {id:Nat}{Q:Exit→Act→World→Prop}{a:Act}{w:World}(h:Q .normal a w):Exit.inBlock id Q .normal a w:=h
theorem aFz (s:ByteArray)(m:Nat):gT s 0 (m+1) { tmps:=#[Value.string s]++Array.replicate m undef,defers:=[] } :=
 ⟨by simp;omega,by rw[Array.getElem?_append_left (by simp)];rfl,rfl⟩
open Go.RowKit
theorem aFk (bs:ByteArray):∀(k i:Nat) (r:List UInt8),bs.size-i=k→ByteArray.toList.loop bs i r=r.reverse++bs.data.toList.drop i:=by
 intro k;induction k with
 | zero =>
  intro i r h;rw[ByteArray.toList.loop,if_neg (by omega)];have hs:bs.data.toList.length=bs.size:=by simp
  rw[List.drop_eq_nil_of_le (by omega),List.append_nil]
 | succ k ih =>
  intro i r h;have hs:bs.data.toList.length=bs.size:=by simp
  rw[ByteArray.toList.loop,if_pos (by omega),ih _ _ (by omega)];rw[List.drop_eq_getElem_cons (i:=i) (by omega)];have e:bs.get! i=bs.data.toList[i]'(by omega):=by
   unfold ByteArray.get!;have:i<bs.data.size:=by simpa using (by omega:i<bs.size)
   exact getElem!_pos bs.data i this
  rw[e];simp
theorem toList_data (bs:ByteArray):bs.toList=bs.data.toList:=by
 unfold ByteArray.toList;rw[aFk bs _ 0 [] rfl];simp
def KW (p:List UInt8 × Nat):Prop:=∀w:World,Calls Tryz.prog 24 #[.string ⟨p.1.toArray⟩] w fun e w'=>e=.returned (.int .i64 (p.2:Nat))∧w=w'
theorem aLK:∀p∈eS,KW p:=by
 unfold eS;repeat' (first|exact List.forall_mem_nil _|refine List.forall_mem_cons.2 ⟨?_,?_⟩)
 all_goals (unfold KW;intro w;dsimp only;go_enter Tryz.func24,Tryz.ntmps24;go_wp2;go_ret;exact⟨rfl,rfl⟩)
open Go.RowKit
theorem aFZ {P:Program}{fn:Func}{t:Nat}{tmps:Array Value}{v:Value}(w:World)(h:fn.results=#[.tmp t])(hv:tmps.getD t undef=v):(results fn tmps).run P w=.ok v w:=by
 unfold results;rw[h];rw[Array.getD_eq_getD_getElem?]at hv
 simp[hv]
theorem aJn (s:ByteArray)(hN:∀l:List UInt8,(eS.map (·.1)).contains l=true→(s.toList==(⟨l.toArray⟩:ByteArray).toList)=false)(w:World):Calls Tryz.prog 24 #[.string s] w fun e w'=>e=.returned (.int .i64 0)∧w=w':=by
 refine calls_of_wp Tryz.func24 rfl ?_;have hC:gT s 0 83 { tmps:=#[.string s]++Array.replicate (Tryz.f24.ntmps-(#[Value.string s]).size) undef,defers:=[] }:=aFz s 82;refine wp_seq (zV hC rfl ?_);clear hC;intro a hC _;refine wp_seq (wp_seq (aG9 hC rfl ?_));clear hC;intro a hC;refine mJ (wp_block ?_);repeat' (first
  | (refine aAp 9 s _ 3 83 (hN _ (by decide +kernel)) hC rfl ?_;clear hC;intro a hC hb)
  | (with_reducible refine mJ ?_)
  | (with_reducible refine wV ?_)
  | (with_reducible refine wp_cond_false hb ?_)
  | (with_reducible refine wp_seq ?_)
  | (with_reducible refine wp_skip ?_))
 refine zV hC rfl ?_;clear hC hb;intro a hC he;refine mJ (wp_ret ?_);exact⟨hC.defers,.int .i64 0,aFZ w rfl he,rfl,rfl⟩
theorem kS (s:ByteArray)(w:World):Calls Tryz.prog 24 #[.string s] w fun e w'=>e=.returned (.int .i64 (aW s.data.toList:Nat))∧w=w':=by
 by_cases h:s.data.toList∈eS.map (·.1)
 ·obtain⟨p,hp,e⟩:=List.mem_map.1 h;have hk:=aLK p hp w;rw[e]at hk
  rw[←e,(vK p hp).2];exact hk
 ·rw[vJ _ h];refine aJn s (fun l hl=>?_) w;rw[beq_eq_false_iff_ne];intro e;rw[toList_data,toList_data]at e
  apply h;have e2:s.data.toList=l:=e;rw[e2];simpa using hl
open Go.RowKit
def aP (s:ByteArray)(n:Int):Prop:=∀w,Calls Tryz.prog 24 #[.string s] w fun e w'=>e=.returned (.int .i64 n)∧w=w'
theorem aCq (s:ByteArray):aP s (aW s.data.toList:Nat):=fun w=>kS s w
theorem dD {a b:Bool}(h:a=b):Ending.returned (.bool a)=.returned (.bool b):=by rw[h]
theorem aQN (p k:ByteArray)(K:Int)(b:Bool)(w:World)(hp:Hid (aP p 0))(hk:Hid (aP k K))(hb:Hid ((false)=b)) :
  Calls Tryz.prog 26 #[.string p,.string k] w fun e w'=>e=.returned (.bool b)∧w=w':=by
 go_enter Tryz.func26,Tryz.ntmps26
 go_wp2_with fail
 refine(hk.out _).mono ?_;rintro e w' ⟨rfl,rfl⟩;go_wp2_with fail
 refine(hp.out _).mono ?_;rintro e w' ⟨rfl,rfl⟩;go_wp2
 all_goals
  go_ret;refine⟨dD ?_,rfl⟩;first
   | (rw[←hb.out];done)
   | (rw[←hb.out,Bool.eq_iff_iff];simp;done)
   | (rw[←hb.out,Bool.eq_iff_iff];simp;omega)
   | (rw[←hb.out];simp_all;done)
theorem aQO (p k:ByteArray)(K:Int)(b:Bool)(w:World)(hp:Hid (aP p 1))(hk:Hid (aP k K))(hb:Hid ((false)=b)) :
  Calls Tryz.prog 26 #[.string p,.string k] w fun e w'=>e=.returned (.bool b)∧w=w':=by
 go_enter Tryz.func26,Tryz.ntmps26
 go_wp2_with fail
 refine(hk.out _).mono ?_;rintro e w' ⟨rfl,rfl⟩;go_wp2_with fail
 refine(hp.out _).mono ?_;rintro e w' ⟨rfl,rfl⟩;go_wp2
 all_goals
  go_ret;refine⟨dD ?_,rfl⟩;first
   | (rw[←hb.out];done)
   | (rw[←hb.out,Bool.eq_iff_iff];simp;done)
   | (rw[←hb.out,Bool.eq_iff_iff];simp;omega)
   | (rw[←hb.out];simp_all;done)
theorem aQP (p k:ByteArray)(K:Int)(b:Bool)(w:World)(hp:Hid (aP p 2))(hk:Hid (aP k K))(hb:Hid ((decide (2≤K)&&decide (K≤7)||decide (K=9))=b)) :
  Calls Tryz.prog 26 #[.string p,.string k] w fun e w'=>e=.returned (.bool b)∧w=w':=by
 go_enter Tryz.func26,Tryz.ntmps26
 go_wp2_with fail
 refine(hk.out _).mono ?_;rintro e w' ⟨rfl,rfl⟩;go_wp2_with fail
 refine(hp.out _).mono ?_;rintro e w' ⟨rfl,rfl⟩;go_wp2
 all_goals
  go_ret;refine⟨dD ?_,rfl⟩;first
   | (rw[←hb.out];done)
   | (rw[←hb.out,Bool.eq_iff_iff];simp;done)
   | (rw[←hb.out,Bool.eq_iff_iff];simp;omega)
   | (rw[←hb.out];simp_all;done)
theorem aQQ (p k:ByteArray)(K:Int)(b:Bool)(w:World)(hp:Hid (aP p 3))(hk:Hid (aP k K))(hb:Hid ((decide (K=4)||decide (K=5))=b)) :
  Calls Tryz.prog 26 #[.string p,.string k] w fun e w'=>e=.returned (.bool b)∧w=w':=by
 go_enter Tryz.func26,Tryz.ntmps26
 go_wp2_with fail
 refine(hk.out _).mono ?_;rintro e w' ⟨rfl,rfl⟩;go_wp2_with fail
 refine(hp.out _).mono ?_;rintro e w' ⟨rfl,rfl⟩;go_wp2
 all_goals
  go_ret;refine⟨dD ?_,rfl⟩;first
   | (rw[←hb.out];done)
   | (rw[←hb.out,Bool.eq_iff_iff];simp;done)
   | (rw[←hb.out,Bool.eq_iff_iff];simp;omega)
   | (rw[←hb.out];simp_all;done)
theorem aQR (p k:ByteArray)(K:Int)(b:Bool)(w:World)(hp:Hid (aP p 4))(hk:Hid (aP k K))(hb:Hid ((decide (K=4)&&!(k.toList==p.toList)||decide (K=5))=b)) :
  Calls Tryz.prog 26 #[.string p,.string k] w fun e w'=>e=.returned (.bool b)∧w=w':=by
 go_enter Tryz.func26,Tryz.ntmps26
 go_wp2_with fail
 refine(hk.out _).mono ?_;rintro e w' ⟨rfl,rfl⟩;go_wp2_with fail
 refine(hp.out _).mono ?_;rintro e w' ⟨rfl,rfl⟩;go_wp2
 all_goals
  go_ret;refine⟨dD ?_,rfl⟩;first
   | (rw[←hb.out];done)
   | (rw[←hb.out,Bool.eq_iff_iff];simp;done)
   | (rw[←hb.out,Bool.eq_iff_iff];simp;omega)
   | (rw[←hb.out];simp_all;done)
theorem aQS (p k:ByteArray)(K:Int)(b:Bool)(w:World)(hp:Hid (aP p 5))(hk:Hid (aP k K))(hb:Hid ((false)=b)) :
  Calls Tryz.prog 26 #[.string p,.string k] w fun e w'=>e=.returned (.bool b)∧w=w':=by
 go_enter Tryz.func26,Tryz.ntmps26
 go_wp2_with fail
 refine(hk.out _).mono ?_;rintro e w' ⟨rfl,rfl⟩;go_wp2_with fail
 refine(hp.out _).mono ?_;rintro e w' ⟨rfl,rfl⟩;go_wp2
 all_goals
  go_ret;refine⟨dD ?_,rfl⟩;first
   | (rw[←hb.out];done)
   | (rw[←hb.out,Bool.eq_iff_iff];simp;done)
   | (rw[←hb.out,Bool.eq_iff_iff];simp;omega)
   | (rw[←hb.out];simp_all;done)
theorem aQT (p k:ByteArray)(K:Int)(b:Bool)(w:World)(hp:Hid (aP p 6))(hk:Hid (aP k K))(hb:Hid ((false)=b)) :
  Calls Tryz.prog 26 #[.string p,.string k] w fun e w'=>e=.returned (.bool b)∧w=w':=by
 go_enter Tryz.func26,Tryz.ntmps26
 go_wp2_with fail
 refine(hk.out _).mono ?_;rintro e w' ⟨rfl,rfl⟩;go_wp2_with fail
 refine(hp.out _).mono ?_;rintro e w' ⟨rfl,rfl⟩;go_wp2
 all_goals
  go_ret;refine⟨dD ?_,rfl⟩;first
   | (rw[←hb.out];done)
   | (rw[←hb.out,Bool.eq_iff_iff];simp;done)
   | (rw[←hb.out,Bool.eq_iff_iff];simp;omega)
   | (rw[←hb.out];simp_all;done)
theorem aQU (p k:ByteArray)(K:Int)(b:Bool)(w:World)(hp:Hid (aP p 7))(hk:Hid (aP k K))(hb:Hid ((decide (K=8))=b)) :
  Calls Tryz.prog 26 #[.string p,.string k] w fun e w'=>e=.returned (.bool b)∧w=w':=by
 go_enter Tryz.func26,Tryz.ntmps26
 go_wp2_with fail
 refine(hk.out _).mono ?_;rintro e w' ⟨rfl,rfl⟩;go_wp2_with fail
 refine(hp.out _).mono ?_;rintro e w' ⟨rfl,rfl⟩;go_wp2
 all_goals
  go_ret;refine⟨dD ?_,rfl⟩;first
   | (rw[←hb.out];done)
   | (rw[←hb.out,Bool.eq_iff_iff];simp;done)
   | (rw[←hb.out,Bool.eq_iff_iff];simp;omega)
   | (rw[←hb.out];simp_all;done)
theorem aQV (p k:ByteArray)(K:Int)(b:Bool)(w:World)(hp:Hid (aP p 8))(hk:Hid (aP k K))(hb:Hid ((decide (2≤K)&&decide (K≤7)||decide (K=9))=b)) :
  Calls Tryz.prog 26 #[.string p,.string k] w fun e w'=>e=.returned (.bool b)∧w=w':=by
 go_enter Tryz.func26,Tryz.ntmps26
 go_wp2_with fail
 refine(hk.out _).mono ?_;rintro e w' ⟨rfl,rfl⟩;go_wp2_with fail
 refine(hp.out _).mono ?_;rintro e w' ⟨rfl,rfl⟩;go_wp2
 all_goals
  go_ret;refine⟨dD ?_,rfl⟩;first
   | (rw[←hb.out];done)
   | (rw[←hb.out,Bool.eq_iff_iff];simp;done)
   | (rw[←hb.out,Bool.eq_iff_iff];simp;omega)
   | (rw[←hb.out];simp_all;done)
theorem aQW (p k:ByteArray)(K:Int)(b:Bool)(w:World)(hp:Hid (aP p 9))(hk:Hid (aP k K))(hb:Hid ((decide (K=10)||decide (K=11))=b)) :
  Calls Tryz.prog 26 #[.string p,.string k] w fun e w'=>e=.returned (.bool b)∧w=w':=by
 go_enter Tryz.func26,Tryz.ntmps26
 go_wp2_with fail
 refine(hk.out _).mono ?_;rintro e w' ⟨rfl,rfl⟩;go_wp2_with fail
 refine(hp.out _).mono ?_;rintro e w' ⟨rfl,rfl⟩;go_wp2
 all_goals
  go_ret;refine⟨dD ?_,rfl⟩;first
   | (rw[←hb.out];done)
   | (rw[←hb.out,Bool.eq_iff_iff];simp;done)
   | (rw[←hb.out,Bool.eq_iff_iff];simp;omega)
   | (rw[←hb.out];simp_all;done)
theorem aPP (p k:ByteArray)(K:Int)(b:Bool)(w:World)(hp:Hid (aP p 10))(hk:Hid (aP k K))(hb:Hid ((decide (K=4)||decide (K=5))=b)) :
  Calls Tryz.prog 26 #[.string p,.string k] w fun e w'=>e=.returned (.bool b)∧w=w':=by
 go_enter Tryz.func26,Tryz.ntmps26
 go_wp2_with fail
 refine(hk.out _).mono ?_;rintro e w' ⟨rfl,rfl⟩;go_wp2_with fail
 refine(hp.out _).mono ?_;rintro e w' ⟨rfl,rfl⟩;go_wp2
 all_goals
  go_ret;refine⟨dD ?_,rfl⟩;first
   | (rw[←hb.out];done)
   | (rw[←hb.out,Bool.eq_iff_iff];simp;done)
   | (rw[←hb.out,Bool.eq_iff_iff];simp;omega)
   | (rw[←hb.out];simp_all;done)
theorem aPQ (p k:ByteArray)(K:Int)(b:Bool)(w:World)(hp:Hid (aP p 11))(hk:Hid (aP k K))(hb:Hid ((decide (K=12))=b)) :
  Calls Tryz.prog 26 #[.string p,.string k] w fun e w'=>e=.returned (.bool b)∧w=w':=by
 go_enter Tryz.func26,Tryz.ntmps26
 go_wp2_with fail
 refine(hk.out _).mono ?_;rintro e w' ⟨rfl,rfl⟩;go_wp2_with fail
 refine(hp.out _).mono ?_;rintro e w' ⟨rfl,rfl⟩;go_wp2
 all_goals
  go_ret;refine⟨dD ?_,rfl⟩;first
   | (rw[←hb.out];done)
   | (rw[←hb.out,Bool.eq_iff_iff];simp;done)
   | (rw[←hb.out,Bool.eq_iff_iff];simp;omega)
   | (rw[←hb.out];simp_all;done)
theorem aPR (p k:ByteArray)(K:Int)(b:Bool)(w:World)(hp:Hid (aP p 12))(hk:Hid (aP k K))(hb:Hid ((decide (K=13))=b)) :
  Calls Tryz.prog 26 #[.string p,.string k] w fun e w'=>e=.returned (.bool b)∧w=w':=by
 go_enter Tryz.func26,Tryz.ntmps26
 go_wp2_with fail
 refine(hk.out _).mono ?_;rintro e w' ⟨rfl,rfl⟩;go_wp2_with fail
 refine(hp.out _).mono ?_;rintro e w' ⟨rfl,rfl⟩;go_wp2
 all_goals
  go_ret;refine⟨dD ?_,rfl⟩;first
   | (rw[←hb.out];done)
   | (rw[←hb.out,Bool.eq_iff_iff];simp;done)
   | (rw[←hb.out,Bool.eq_iff_iff];simp;omega)
   | (rw[←hb.out];simp_all;done)
theorem aPS (p k:ByteArray)(K:Int)(b:Bool)(w:World)(hp:Hid (aP p 13))(hk:Hid (aP k K))(hb:Hid ((decide (2≤K)&&decide (K≤7)||decide (K=9))=b)) :
  Calls Tryz.prog 26 #[.string p,.string k] w fun e w'=>e=.returned (.bool b)∧w=w':=by
 go_enter Tryz.func26,Tryz.ntmps26
 go_wp2_with fail
 refine(hk.out _).mono ?_;rintro e w' ⟨rfl,rfl⟩;go_wp2_with fail
 refine(hp.out _).mono ?_;rintro e w' ⟨rfl,rfl⟩;go_wp2
 all_goals
  go_ret;refine⟨dD ?_,rfl⟩;first
   | (rw[←hb.out];done)
   | (rw[←hb.out,Bool.eq_iff_iff];simp;done)
   | (rw[←hb.out,Bool.eq_iff_iff];simp;omega)
   | (rw[←hb.out];simp_all;done)
theorem aPT (p k:ByteArray)(K:Int)(b:Bool)(w:World)(hp:Hid (aP p 14))(hk:Hid (aP k K))(hb:Hid ((decide (2≤K)&&decide (K≤7)||decide (K=9))=b)) :
  Calls Tryz.prog 26 #[.string p,.string k] w fun e w'=>e=.returned (.bool b)∧w=w':=by
 go_enter Tryz.func26,Tryz.ntmps26
 go_wp2_with fail
 refine(hk.out _).mono ?_;rintro e w' ⟨rfl,rfl⟩;go_wp2_with fail
 refine(hp.out _).mono ?_;rintro e w' ⟨rfl,rfl⟩;go_wp2
 all_goals
  go_ret;refine⟨dD ?_,rfl⟩;first
   | (rw[←hb.out];done)
   | (rw[←hb.out,Bool.eq_iff_iff];simp;done)
   | (rw[←hb.out,Bool.eq_iff_iff];simp;omega)
   | (rw[←hb.out];simp_all;done)
theorem uE (p k:ByteArray)(w:World):Calls Tryz.prog 26 #[.string p,.string k] w fun e w'=>e=.returned (.bool (mY p.data.toList k.data.toList))∧w=w':=by
 have hp:=aCq p;have hk:=aCq k;have hs:(k.toList==p.toList)=(k.data.toList==p.data.toList):=by rw[toList_data,toList_data]
 have lp:=rN p.data.toList;unfold mY;rw[←hs];generalize aW k.data.toList=K at hk;generalize aW p.data.toList=P at hp lp;have key:∀(n:Nat) (f:Bool),P=n→f=jR n K (k.toList==p.toList)→(∀b,Hid (aP p n)→Hid (aP k (K:Nat))→Hid (f=b)→Calls Tryz.prog 26 #[.string p,.string k] w fun e w'=>e=.returned (.bool b)∧w=w')→Calls Tryz.prog 26 #[.string p,.string k] w fun e w'=>e=.returned (.bool (jR P K (k.toList==p.toList)))∧w=w':=by
  intro n f hn hf h;subst hn;exact h _ (hid hp) (hid hk) (hid hf)
 have hP:P=0∨P=1∨P=2∨P=3∨P=4∨P=5∨P=6∨P=7∨P=8∨P=9∨P=10∨P=11∨P=12∨P=13∨P=14:=by omega
 rcases hP with h|h|h|h|h|h|h|h|h|h|h|h|h|h|h
 ·exact key 0 _ h (by simp only[jR];rw[Bool.eq_iff_iff];simp;try omega) fun b a1 a2 a3=>aQN p k _ b w a1 a2 a3
 ·exact key 1 _ h (by simp only[jR];rw[Bool.eq_iff_iff];simp;try omega) fun b a1 a2 a3=>aQO p k _ b w a1 a2 a3
 ·exact key 2 _ h (by simp only[jR];rw[Bool.eq_iff_iff];simp;try omega) fun b a1 a2 a3=>aQP p k _ b w a1 a2 a3
 ·exact key 3 _ h (by simp only[jR];rw[Bool.eq_iff_iff];simp;try omega) fun b a1 a2 a3=>aQQ p k _ b w a1 a2 a3
 ·exact key 4 _ h (by simp only[jR];rw[Bool.eq_iff_iff];simp;rw[show((K:Nat):Int)=4↔K=4 by omega,show((K:Nat):Int)=5↔K=5 by omega]) fun b a1 a2 a3=>aQR p k _ b w a1 a2 a3
 ·exact key 5 _ h (by simp only[jR];rw[Bool.eq_iff_iff];simp;try omega) fun b a1 a2 a3=>aQS p k _ b w a1 a2 a3
 ·exact key 6 _ h (by simp only[jR];rw[Bool.eq_iff_iff];simp;try omega) fun b a1 a2 a3=>aQT p k _ b w a1 a2 a3
 ·exact key 7 _ h (by simp only[jR];rw[Bool.eq_iff_iff];simp;try omega) fun b a1 a2 a3=>aQU p k _ b w a1 a2 a3
 ·exact key 8 _ h (by simp only[jR];rw[Bool.eq_iff_iff];simp;try omega) fun b a1 a2 a3=>aQV p k _ b w a1 a2 a3
 ·exact key 9 _ h (by simp only[jR];rw[Bool.eq_iff_iff];simp;try omega) fun b a1 a2 a3=>aQW p k _ b w a1 a2 a3
 ·exact key 10 _ h (by simp only[jR];rw[Bool.eq_iff_iff];simp;try omega) fun b a1 a2 a3=>aPP p k _ b w a1 a2 a3
 ·exact key 11 _ h (by simp only[jR];rw[Bool.eq_iff_iff];simp;try omega) fun b a1 a2 a3=>aPQ p k _ b w a1 a2 a3
 ·exact key 12 _ h (by simp only[jR];rw[Bool.eq_iff_iff];simp;try omega) fun b a1 a2 a3=>aPR p k _ b w a1 a2 a3
 ·exact key 13 _ h (by simp only[jR];rw[Bool.eq_iff_iff];simp;try omega) fun b a1 a2 a3=>aPS p k _ b w a1 a2 a3
 ·exact key 14 _ h (by simp only[jR];rw[Bool.eq_iff_iff];simp;try omega) fun b a1 a2 a3=>aPT p k _ b w a1 a2 a3
theorem aOI (p:ByteArray)(w:World)(hp:Hid (aP p 0)) :
  Calls Tryz.prog 28 #[.string p] w fun e w'=>e=.returned (.bool false)∧w=w':=by
 go_enter Tryz.func28,Tryz.ntmps28
 go_wp2_with fail
 refine(hp.out _).mono ?_;rintro e w' ⟨rfl,rfl⟩;go_wp2
 go_ret;exact⟨rfl,rfl⟩
theorem aOJ (p:ByteArray)(w:World)(hp:Hid (aP p 1)) :
  Calls Tryz.prog 28 #[.string p] w fun e w'=>e=.returned (.bool false)∧w=w':=by
 go_enter Tryz.func28,Tryz.ntmps28
 go_wp2_with fail
 refine(hp.out _).mono ?_;rintro e w' ⟨rfl,rfl⟩;go_wp2
 go_ret;exact⟨rfl,rfl⟩
theorem aOK (p:ByteArray)(w:World)(hp:Hid (aP p 2)) :
  Calls Tryz.prog 28 #[.string p] w fun e w'=>e=.returned (.bool true)∧w=w':=by
 go_enter Tryz.func28,Tryz.ntmps28
 go_wp2_with fail
 refine(hp.out _).mono ?_;rintro e w' ⟨rfl,rfl⟩;go_wp2
 go_ret;exact⟨rfl,rfl⟩
theorem aOL (p:ByteArray)(w:World)(hp:Hid (aP p 3)) :
  Calls Tryz.prog 28 #[.string p] w fun e w'=>e=.returned (.bool true)∧w=w':=by
 go_enter Tryz.func28,Tryz.ntmps28
 go_wp2_with fail
 refine(hp.out _).mono ?_;rintro e w' ⟨rfl,rfl⟩;go_wp2
 go_ret;exact⟨rfl,rfl⟩
theorem aOM (p:ByteArray)(w:World)(hp:Hid (aP p 4)) :
  Calls Tryz.prog 28 #[.string p] w fun e w'=>e=.returned (.bool true)∧w=w':=by
 go_enter Tryz.func28,Tryz.ntmps28
 go_wp2_with fail
 refine(hp.out _).mono ?_;rintro e w' ⟨rfl,rfl⟩;go_wp2
 go_ret;exact⟨rfl,rfl⟩
theorem aON (p:ByteArray)(w:World)(hp:Hid (aP p 5)) :
  Calls Tryz.prog 28 #[.string p] w fun e w'=>e=.returned (.bool false)∧w=w':=by
 go_enter Tryz.func28,Tryz.ntmps28
 go_wp2_with fail
 refine(hp.out _).mono ?_;rintro e w' ⟨rfl,rfl⟩;go_wp2
 go_ret;exact⟨rfl,rfl⟩
theorem aOO (p:ByteArray)(w:World)(hp:Hid (aP p 6)) :
  Calls Tryz.prog 28 #[.string p] w fun e w'=>e=.returned (.bool false)∧w=w':=by
 go_enter Tryz.func28,Tryz.ntmps28
 go_wp2_with fail
 refine(hp.out _).mono ?_;rintro e w' ⟨rfl,rfl⟩;go_wp2
 go_ret;exact⟨rfl,rfl⟩
theorem aOP (p:ByteArray)(w:World)(hp:Hid (aP p 7)) :
  Calls Tryz.prog 28 #[.string p] w fun e w'=>e=.returned (.bool false)∧w=w':=by
 go_enter Tryz.func28,Tryz.ntmps28
 go_wp2_with fail
 refine(hp.out _).mono ?_;rintro e w' ⟨rfl,rfl⟩;go_wp2
 go_ret;exact⟨rfl,rfl⟩
theorem aOQ (p:ByteArray)(w:World)(hp:Hid (aP p 8)) :
  Calls Tryz.prog 28 #[.string p] w fun e w'=>e=.returned (.bool true)∧w=w':=by
 go_enter Tryz.func28,Tryz.ntmps28
 go_wp2_with fail
 refine(hp.out _).mono ?_;rintro e w' ⟨rfl,rfl⟩;go_wp2
 go_ret;exact⟨rfl,rfl⟩
theorem aOR (p:ByteArray)(w:World)(hp:Hid (aP p 9)) :
  Calls Tryz.prog 28 #[.string p] w fun e w'=>e=.returned (.bool false)∧w=w':=by
 go_enter Tryz.func28,Tryz.ntmps28
 go_wp2_with fail
 refine(hp.out _).mono ?_;rintro e w' ⟨rfl,rfl⟩;go_wp2
 go_ret;exact⟨rfl,rfl⟩
theorem aMu (p:ByteArray)(w:World)(hp:Hid (aP p 10)) :
  Calls Tryz.prog 28 #[.string p] w fun e w'=>e=.returned (.bool true)∧w=w':=by
 go_enter Tryz.func28,Tryz.ntmps28
 go_wp2_with fail
 refine(hp.out _).mono ?_;rintro e w' ⟨rfl,rfl⟩;go_wp2
 go_ret;exact⟨rfl,rfl⟩
theorem aMv (p:ByteArray)(w:World)(hp:Hid (aP p 11)) :
  Calls Tryz.prog 28 #[.string p] w fun e w'=>e=.returned (.bool false)∧w=w':=by
 go_enter Tryz.func28,Tryz.ntmps28
 go_wp2_with fail
 refine(hp.out _).mono ?_;rintro e w' ⟨rfl,rfl⟩;go_wp2
 go_ret;exact⟨rfl,rfl⟩
theorem aMw (p:ByteArray)(w:World)(hp:Hid (aP p 12)) :
  Calls Tryz.prog 28 #[.string p] w fun e w'=>e=.returned (.bool false)∧w=w':=by
 go_enter Tryz.func28,Tryz.ntmps28
 go_wp2_with fail
 refine(hp.out _).mono ?_;rintro e w' ⟨rfl,rfl⟩;go_wp2
 go_ret;exact⟨rfl,rfl⟩
theorem aMx (p:ByteArray)(w:World)(hp:Hid (aP p 13)) :
  Calls Tryz.prog 28 #[.string p] w fun e w'=>e=.returned (.bool true)∧w=w':=by
 go_enter Tryz.func28,Tryz.ntmps28
 go_wp2_with fail
 refine(hp.out _).mono ?_;rintro e w' ⟨rfl,rfl⟩;go_wp2
 go_ret;exact⟨rfl,rfl⟩
theorem aMy (p:ByteArray)(w:World)(hp:Hid (aP p 14)) :
  Calls Tryz.prog 28 #[.string p] w fun e w'=>e=.returned (.bool true)∧w=w':=by
 go_enter Tryz.func28,Tryz.ntmps28
 go_wp2_with fail
 refine(hp.out _).mono ?_;rintro e w' ⟨rfl,rfl⟩;go_wp2
 go_ret;exact⟨rfl,rfl⟩
theorem aKs (p:ByteArray)(w:World):Calls Tryz.prog 28 #[.string p] w fun e w'=>e=.returned (.bool (mI p.data.toList))∧w=w':=by
 have hp:=aCq p;have lp:=rN p.data.toList;unfold mI;generalize aW p.data.toList=P at hp lp;have hP:P=0∨P=1∨P=2∨P=3∨P=4∨P=5∨P=6∨P=7∨P=8∨P=9∨P=10∨P=11∨P=12∨P=13∨P=14:=by omega
 rcases hP with rfl|rfl|rfl|rfl|rfl|rfl|rfl|rfl|rfl|rfl|rfl|rfl|rfl|rfl|rfl
 ·exact aOI p w (hid hp)
 ·exact aOJ p w (hid hp)
 ·exact aOK p w (hid hp)
 ·exact aOL p w (hid hp)
 ·exact aOM p w (hid hp)
 ·exact aON p w (hid hp)
 ·exact aOO p w (hid hp)
 ·exact aOP p w (hid hp)
 ·exact aOQ p w (hid hp)
 ·exact aOR p w (hid hp)
 ·exact aMu p w (hid hp)
 ·exact aMv p w (hid hp)
 ·exact aMw p w (hid hp)
 ·exact aMx p w (hid hp)
 ·exact aMy p w (hid hp)
end Go.Proofs.YtcfgbdhpcboikaaGreatDoor
