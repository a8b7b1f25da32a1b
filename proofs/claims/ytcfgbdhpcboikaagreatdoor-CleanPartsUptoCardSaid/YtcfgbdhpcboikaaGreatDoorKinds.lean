/-
  The kinds of elements, by name: the program's table and the document's lists. No program in sight.
  A chain of tests of one word against constants ('switch' over strings), test by test: a rule for each, without the walk. Over any program.
  policy.Kind: what it answers, as a plain function of the name (printed by wip/gen/kindw.py).
  policy.Kind: what it answers, as a plain function of the name.
-/
import Derived.WalkKit
import Derived.Lib.Hide
import Derived.Test.YtcfgbdhpcboikaaGreatDoorProg
namespace Go.Proofs.YtcfgbdhpcboikaaGreatDoor
set_option maxHeartbeats 1000000
set_option maxRecDepth 100000
def kindTab:List (List UInt8 × Nat):=[([98,111,100,121],14),
 ([100,105,118],2),
 ([98,108,111,99,107,113,117,111,116,101],2),
 ([112],3),
 ([104,49],3),
 ([104,50],3),
 ([104,51],3),
 ([104,52],3),
 ([104,53],3),
 ([104,54],3),
 ([112,114,101],3),
 ([97],4),
 ([98],4),
 ([99,111,100,101],4),
 ([101,109],4),
 ([105],4),
 ([109,101,116,101,114],4),
 ([112,114,111,103,114,101,115,115],4),
 ([115],4),
 ([115,109,97,108,108],4),
 ([115,112,97,110],4),
 ([115,116,114,111,110,103],4),
 ([115,117,98],4),
 ([115,117,112],4),
 ([117],4),
 ([98,114],5),
 ([105,109,103],5),
 ([104,114],6),
 ([111,108],7),
 ([117,108],7),
 ([108,105],8),
 ([116,97,98,108,101],9),
 ([99,97,112,116,105,111,110],10),
 ([116,98,111,100,121],11),
 ([116,102,111,111,116],11),
 ([116,104,101,97,100],11),
 ([116,114],12),
 ([116,100],13),
 ([116,104],13),
 ([97,112,112,108,101,116],1),
 ([97,117,100,105,111],1),
 ([98,97,115,101],1),
 ([98,117,116,116,111,110],1),
 ([99,97,110,118,97,115],1),
 ([101,109,98,101,100],1),
 ([102,114,97,109,101],1),
 ([102,114,97,109,101,115,101,116],1),
 ([104,101,97,100],1),
 ([105,102,114,97,109,101],1),
 ([105,110,112,117,116],1),
 ([108,105,110,107],1),
 ([109,101,116,97],1),
 ([110,111,101,109,98,101,100],1),
 ([110,111,102,114,97,109,101,115],1),
 ([111,98,106,101,99,116],1),
 ([111,112,116,105,111,110],1),
 ([112,97,114,97,109],1),
 ([115,99,114,105,112,116],1),
 ([115,101,108,101,99,116],1),
 ([115,116,121,108,101],1),
 ([116,101,109,112,108,97,116,101],1),
 ([116,101,120,116,97,114,101,97],1),
 ([116,105,116,108,101],1),
 ([118,105,100,101,111],1),
 ([120,109,112],1)]
def kindLists:List (List UInt8):=[[],
 [97,112,112,108,101,116,32,97,117,100,105,111,32,98,97,115,101,32,98,117,116,116,111,110,32,99,97,110,118,97,115,32,101,109,98,101,100,32,102,114,97,109,101,32,102,114,97,109,101,115,101,116,32,104,101,97,100,32,105,102,114,97,109,101,32,105,110,112,117,116,32,108,105,110,107,32,109,101,116,97,32,110,111,101,109,98,101,100,32,110,111,102,114,97,109,101,115,32,111,98,106,101,99,116,32,111,112,116,105,111,110,32,112,97,114,97,109,32,115,99,114,105,112,116,32,115,101,108,101,99,116,32,115,116,121,108,101,32,116,101,109,112,108,97,116,101,32,116,101,120,116,97,114,101,97,32,116,105,116,108,101,32,118,105,100,101,111,32,120,109,112],
 [100,105,118,32,98,108,111,99,107,113,117,111,116,101],
 [112,32,104,49,32,104,50,32,104,51,32,104,52,32,104,53,32,104,54,32,112,114,101],
 [97,32,98,32,99,111,100,101,32,101,109,32,105,32,109,101,116,101,114,32,112,114,111,103,114,101,115,115,32,115,32,115,109,97,108,108,32,115,112,97,110,32,115,116,114,111,110,103,32,115,117,98,32,115,117,112,32,117],
 [98,114,32,105,109,103],
 [104,114],
 [111,108,32,117,108],
 [108,105],
 [116,97,98,108,101],
 [99,97,112,116,105,111,110],
 [116,98,111,100,121,32,116,102,111,111,116,32,116,104,101,97,100],
 [116,114],
 [116,100,32,116,104],
 [98,111,100,121]]
def kindL (n:List UInt8):Nat:=((kindTab.find? fun p=>p.1==n).map (·.2)).getD 0
def wordsGo:List UInt8→List UInt8→List (List UInt8)
 | cur,[]=>if cur.isEmpty then [] else [cur]
 | cur,c :: l=>if c=32 then (if cur.isEmpty then wordsGo [] l else cur :: wordsGo [] l) else wordsGo (cur++[c]) l
def words (l:List UInt8):List (List UInt8):=wordsGo [] l
def inB (w l:List UInt8):Bool:=(words l).contains w
def idxGo (n:List UInt8):List (List UInt8)→Nat→Nat
 | [],_=>0
 | l :: r,i=>if inB n l then i else idxGo n r (i+1)
theorem kinds_in:∀ p∈kindTab,idxGo p.1 kindLists 0=p.2∧kindL p.1=p.2:=by decide +kernel
theorem kindL_none (n:List UInt8)(h:n∉kindTab.map (·.1)):kindL n=0:=by
 unfold kindL
 have:(kindTab.find? fun p=>p.1==n)=none:=by
  rw[List.find?_eq_none]
  intro p hp he
  apply h
  have e:p.1=n:=by simpa using he
  rw[← e]
  exact List.mem_map_of_mem hp
 rw[this]
 rfl
theorem kindL_le (n:List UInt8):kindL n≤14:=by
 by_cases h:n∈kindTab.map (·.1)
 ·obtain⟨p,hp,rfl⟩:=List.mem_map.1 h
  rw[(kinds_in p hp).2]
  have:∀ p∈kindTab,p.2≤14:=by decide +kernel
  exact this p hp
 ·rw[kindL_none n h];omega
def mayN (p k:Nat)(same:Bool):Bool :=
 if p=14∨p=2∨p=8∨p=13 then decide (2≤k)&&decide (k≤7)||decide (k=9)
 else if p=3∨p=10 then decide (k=4)||decide (k=5)
 else if p=4 then decide (k=4)&&!same||decide (k=5)
 else if p=7 then decide (k=8)
 else if p=9 then decide (k=10)||decide (k=11)
 else if p=11 then decide (k=12)
 else if p=12 then decide (k=13)
 else false
def takesN (p:Nat):Bool:=decide (p=14∨p=2∨p=8∨p=13∨p=3∨p=10∨p=4)
def mayL (p k:List UInt8):Bool:=mayN (kindL p) (kindL k) (k==p)
def takesL (p:List UInt8):Bool:=takesN (kindL p)
open Go.RowKit
structure Chain (s:ByteArray) (k n:Nat) (a:Act):Prop where
 size:a.tmps.size=n
 word:a.tmps[k]?=some (.string s)
 defers:a.defers=[]
theorem Chain.put {s:ByteArray}{k n:Nat}{a:Act}(h:Chain s k n a)(t:Nat)(v:Value)(ht:t≠k):Chain s k n (a.put (some t) v) :=
 ⟨by simp[Act.put,h.size],by simp[Act.put,ht,h.word],h.defers⟩
theorem Chain.eval {s:ByteArray}{k n:Nat}{a:Act}(h:Chain s k n a):a.eval (.tmp k)=.string s:=by
 simp[Act.eval,Array.getD_eq_getD_getElem?,h.word]
theorem eval_put {a:Act}{t:Nat}{v:Value}(h:t<a.tmps.size):(a.put (some t) v).eval (.tmp t)=v:=by
 simp[Act.eval,Act.put,Array.getD_eq_getD_getElem?,h]
theorem chain_eq {P:Program}{Q:Exit→Act→World→Prop}{w:World}(T B:TypeId)(s c:ByteArray)(k n ta tc:Nat)(hta:ta≠k)(htc:tc≠k)(hna:ta<n)(hnc:tc<n)
  {rid:Nat} {p1 p2:String} {f1 f2:Array Edge} {a:Act} (hC:Chain s k n a)
  (h:∀ a',Chain s k n a'→a'.eval (.tmp tc)=.bool (s.toList==c.toList)→Q .normal a' w) :
  (Code.region rid #[{ dst:=some ta,op:=Op.binOp BinOp.eql T (Operand.tmp k) (Operand.const (Value.string c)) T,type:=B,pos:=p1,after:=f1,guard:=none },
   { dst:=some tc,op:=Op.assign (Operand.tmp ta),type:=B,pos:=p2,after:=f2,guard:=none }] false).wp P Q a w:=by
 have h1:=hC.put ta (.bool (s.toList==c.toList)) hta
 have e1:=eval_put (a:=a) (t:=ta) (v:=.bool (s.toList==c.toList)) (by rw[hC.size];exact hna)
 have h2:=h1.put tc (.bool (s.toList==c.toList)) htc
 have e2:=eval_put (a:=a.put (some ta) (.bool (s.toList==c.toList))) (t:=tc) (v:=.bool (s.toList==c.toList)) (by rw[h1.size];exact hnc)
 have ev:=hC.eval
 have ec:a.eval (.const (.string c))=.string c:=rfl
 refine wp_region_lit (l:=[_,_]) ?_
 refine wpList_plain rfl fun K hK=>?_
 have hx:=hK _ _ (wpList_plain (P:=P) (w:=w) (rest:=[]) (o:={ dst:=some tc,op:=Op.assign (Operand.tmp ta),type:=B,pos:=p2,after:=f2,guard:=none }) (a:=a.put (some ta) (.bool (s.toList==c.toList))) rfl fun K2 hK2=>by
  have:=hK2 _ _ (wpList_nil (h _ h2 e2))
  unfold Oper.wp
  simp[execOp,e1,Oper.upon]
  exact this)
 unfold Oper.wp
 simp[execOp,eqGuard,ev,ec,binOp_string_eql,Oper.upon]
 exact hx
theorem chain_no {P:Program}{Q:Exit→Act→World→Prop}{w:World}(T:TypeId)(s c:ByteArray)(k n:Nat)(hne:(s.toList==c.toList)=false)
  {B:TypeId} {ta tc:Nat} {rid:Nat} {p1 p2:String} {f1 f2:Array Edge} {a:Act} (hC:Chain s k n a) (hta:(ta !=k&&tc !=k&&decide (ta<n)&&decide (tc<n))=true)
  (h:∀ a',Chain s k n a'→a'.eval (.tmp tc)=.bool false→Q .normal a' w) :
  (Code.region rid #[{ dst:=some ta,op:=Op.binOp BinOp.eql T (Operand.tmp k) (Operand.const (Value.string c)) T,type:=B,pos:=p1,after:=f1,guard:=none },
   { dst:=some tc,op:=Op.assign (Operand.tmp ta),type:=B,pos:=p2,after:=f2,guard:=none }] false).wp P Q a w:=by
 simp only[Bool.and_eq_true,bne_iff_ne,ne_eq,decide_eq_true_eq] at hta
 exact chain_eq T B s c k n ta tc hta.1.1.1 hta.1.1.2 hta.1.2 hta.2 hC fun a' h1 h2=>h a' h1 (by rw[h2,hne])
theorem chain_const {P:Program}{Q:Exit→Act→World→Prop}{w:World}{s:ByteArray}{k n:Nat}{B:TypeId}{t:Nat}{v:Value}{rid:Nat}{p1:String}{f1:Array Edge}{a:Act}(hC:Chain s k n a)(ht:(t !=k&&decide (t<n))=true)
  (h:∀ a',Chain s k n a'→a'.eval (.tmp t)=v→Q .normal a' w) :
  (Code.region rid #[{ dst:=some t,op:=Op.assign (Operand.const v),type:=B,pos:=p1,after:=f1,guard:=none }] false).wp P Q a w:=by
 simp only[Bool.and_eq_true,bne_iff_ne,ne_eq,decide_eq_true_eq] at ht
 have h1:=hC.put t v ht.1
 have e1:=eval_put (a:=a) (t:=t) (v:=v) (by rw[hC.size];exact ht.2)
 have ec:a.eval (.const v)=v:=rfl
 refine wp_region_lit (l:=[_]) ?_
 refine wpList_plain rfl fun K hK=>?_
 have hx:=hK _ _ (wpList_nil (h _ h1 e1))
 unfold Oper.wp
 simp[execOp,ec,Oper.upon]
 exact hx
theorem chain_move {P:Program}{Q:Exit→Act→World→Prop}{w:World}{s:ByteArray}{k n:Nat}{B:TypeId}{t:Nat}{rid:Nat}{p1:String}{f1:Array Edge}{a:Act}(hC:Chain s k n a)(ht:decide (t<n)=true)
  (h:∀ a',Chain s t n a'→Q .normal a' w) :
  (Code.region rid #[{ dst:=some t,op:=Op.move (Operand.tmp k),type:=B,pos:=p1,after:=f1,guard:=none }] false).wp P Q a w:=by
 simp only[decide_eq_true_eq] at ht
 have ev:=hC.eval
 have h1:Chain s t n (a.put (some t) (.string s)):=⟨by simp[Act.put,hC.size],by simp[Act.put,hC.size,ht],hC.defers⟩
 refine wp_region_lit (l:=[_]) ?_
 refine wpList_plain rfl fun K hK=>?_
 have hx:=hK _ _ (wpList_nil (h _ h1))
 unfold Oper.wp
 simp[execOp,ev,Oper.upon]
 exact hx
theorem then_normal {next:Act→World→Prop}{Q:Exit→Act→World→Prop}{a:Act}{w:World}(h:next a w):Exit.then next Q .normal a w:=h
theorem block_normal {id:Nat}{Q:Exit→Act→World→Prop}{a:Act}{w:World}(h:Q .normal a w):Exit.inBlock id Q .normal a w:=h
theorem chain_start (s:ByteArray)(m:Nat):Chain s 0 (m+1) { tmps:=#[Value.string s]++Array.replicate m undef,defers:=[] } :=
 ⟨by simp;omega,by rw[Array.getElem?_append_left (by simp)];rfl,rfl⟩
open Go.RowKit
theorem toList_loop0 (bs:ByteArray):∀ (k i:Nat) (r:List UInt8),bs.size-i=k→ByteArray.toList.loop bs i r=r.reverse++bs.data.toList.drop i:=by
 intro k
 induction k with
 | zero =>
  intro i r h
  rw[ByteArray.toList.loop,if_neg (by omega)]
  have hs:bs.data.toList.length=bs.size:=by simp
  rw[List.drop_eq_nil_of_le (by omega),List.append_nil]
 | succ k ih =>
  intro i r h
  have hs:bs.data.toList.length=bs.size:=by simp
  rw[ByteArray.toList.loop,if_pos (by omega),ih _ _ (by omega)]
  rw[List.drop_eq_getElem_cons (i:=i) (by omega)]
  have e:bs.get! i=bs.data.toList[i]'(by omega):=by
   unfold ByteArray.get!
   have:i<bs.data.size:=by simpa using (by omega:i<bs.size)
   exact getElem!_pos bs.data i this
  rw[e]
  simp
theorem toList_data (bs:ByteArray):bs.toList=bs.data.toList:=by
 unfold ByteArray.toList
 rw[toList_loop0 bs _ 0 [] rfl]
 simp
theorem kind_w0 (w:World):Calls Tryz.prog 24 #[.string { data:=#[98,111,100,121] }] w fun e w'=>e=.returned (.int .i64 14)∧w=w':=by
 go_enter Tryz.func24,Tryz.ntmps24
 go_wp2
 go_ret
 exact⟨rfl,rfl⟩
theorem kind_w1 (w:World):Calls Tryz.prog 24 #[.string { data:=#[100,105,118] }] w fun e w'=>e=.returned (.int .i64 2)∧w=w':=by
 go_enter Tryz.func24,Tryz.ntmps24
 go_wp2
 go_ret
 exact⟨rfl,rfl⟩
theorem kind_w2 (w:World):Calls Tryz.prog 24 #[.string { data:=#[98,108,111,99,107,113,117,111,116,101] }] w fun e w'=>e=.returned (.int .i64 2)∧w=w':=by
 go_enter Tryz.func24,Tryz.ntmps24
 go_wp2
 go_ret
 exact⟨rfl,rfl⟩
theorem kind_w3 (w:World):Calls Tryz.prog 24 #[.string { data:=#[112] }] w fun e w'=>e=.returned (.int .i64 3)∧w=w':=by
 go_enter Tryz.func24,Tryz.ntmps24
 go_wp2
 go_ret
 exact⟨rfl,rfl⟩
theorem kind_w4 (w:World):Calls Tryz.prog 24 #[.string { data:=#[104,49] }] w fun e w'=>e=.returned (.int .i64 3)∧w=w':=by
 go_enter Tryz.func24,Tryz.ntmps24
 go_wp2
 go_ret
 exact⟨rfl,rfl⟩
theorem kind_w5 (w:World):Calls Tryz.prog 24 #[.string { data:=#[104,50] }] w fun e w'=>e=.returned (.int .i64 3)∧w=w':=by
 go_enter Tryz.func24,Tryz.ntmps24
 go_wp2
 go_ret
 exact⟨rfl,rfl⟩
theorem kind_w6 (w:World):Calls Tryz.prog 24 #[.string { data:=#[104,51] }] w fun e w'=>e=.returned (.int .i64 3)∧w=w':=by
 go_enter Tryz.func24,Tryz.ntmps24
 go_wp2
 go_ret
 exact⟨rfl,rfl⟩
theorem kind_w7 (w:World):Calls Tryz.prog 24 #[.string { data:=#[104,52] }] w fun e w'=>e=.returned (.int .i64 3)∧w=w':=by
 go_enter Tryz.func24,Tryz.ntmps24
 go_wp2
 go_ret
 exact⟨rfl,rfl⟩
theorem kind_w8 (w:World):Calls Tryz.prog 24 #[.string { data:=#[104,53] }] w fun e w'=>e=.returned (.int .i64 3)∧w=w':=by
 go_enter Tryz.func24,Tryz.ntmps24
 go_wp2
 go_ret
 exact⟨rfl,rfl⟩
theorem kind_w9 (w:World):Calls Tryz.prog 24 #[.string { data:=#[104,54] }] w fun e w'=>e=.returned (.int .i64 3)∧w=w':=by
 go_enter Tryz.func24,Tryz.ntmps24
 go_wp2
 go_ret
 exact⟨rfl,rfl⟩
theorem kind_w10 (w:World):Calls Tryz.prog 24 #[.string { data:=#[112,114,101] }] w fun e w'=>e=.returned (.int .i64 3)∧w=w':=by
 go_enter Tryz.func24,Tryz.ntmps24
 go_wp2
 go_ret
 exact⟨rfl,rfl⟩
theorem kind_w11 (w:World):Calls Tryz.prog 24 #[.string { data:=#[97] }] w fun e w'=>e=.returned (.int .i64 4)∧w=w':=by
 go_enter Tryz.func24,Tryz.ntmps24
 go_wp2
 go_ret
 exact⟨rfl,rfl⟩
theorem kind_w12 (w:World):Calls Tryz.prog 24 #[.string { data:=#[98] }] w fun e w'=>e=.returned (.int .i64 4)∧w=w':=by
 go_enter Tryz.func24,Tryz.ntmps24
 go_wp2
 go_ret
 exact⟨rfl,rfl⟩
theorem kind_w13 (w:World):Calls Tryz.prog 24 #[.string { data:=#[99,111,100,101] }] w fun e w'=>e=.returned (.int .i64 4)∧w=w':=by
 go_enter Tryz.func24,Tryz.ntmps24
 go_wp2
 go_ret
 exact⟨rfl,rfl⟩
theorem kind_w14 (w:World):Calls Tryz.prog 24 #[.string { data:=#[101,109] }] w fun e w'=>e=.returned (.int .i64 4)∧w=w':=by
 go_enter Tryz.func24,Tryz.ntmps24
 go_wp2
 go_ret
 exact⟨rfl,rfl⟩
theorem kind_w15 (w:World):Calls Tryz.prog 24 #[.string { data:=#[105] }] w fun e w'=>e=.returned (.int .i64 4)∧w=w':=by
 go_enter Tryz.func24,Tryz.ntmps24
 go_wp2
 go_ret
 exact⟨rfl,rfl⟩
theorem kind_w16 (w:World):Calls Tryz.prog 24 #[.string { data:=#[109,101,116,101,114] }] w fun e w'=>e=.returned (.int .i64 4)∧w=w':=by
 go_enter Tryz.func24,Tryz.ntmps24
 go_wp2
 go_ret
 exact⟨rfl,rfl⟩
theorem kind_w17 (w:World):Calls Tryz.prog 24 #[.string { data:=#[112,114,111,103,114,101,115,115] }] w fun e w'=>e=.returned (.int .i64 4)∧w=w':=by
 go_enter Tryz.func24,Tryz.ntmps24
 go_wp2
 go_ret
 exact⟨rfl,rfl⟩
theorem kind_w18 (w:World):Calls Tryz.prog 24 #[.string { data:=#[115] }] w fun e w'=>e=.returned (.int .i64 4)∧w=w':=by
 go_enter Tryz.func24,Tryz.ntmps24
 go_wp2
 go_ret
 exact⟨rfl,rfl⟩
theorem kind_w19 (w:World):Calls Tryz.prog 24 #[.string { data:=#[115,109,97,108,108] }] w fun e w'=>e=.returned (.int .i64 4)∧w=w':=by
 go_enter Tryz.func24,Tryz.ntmps24
 go_wp2
 go_ret
 exact⟨rfl,rfl⟩
theorem kind_w20 (w:World):Calls Tryz.prog 24 #[.string { data:=#[115,112,97,110] }] w fun e w'=>e=.returned (.int .i64 4)∧w=w':=by
 go_enter Tryz.func24,Tryz.ntmps24
 go_wp2
 go_ret
 exact⟨rfl,rfl⟩
theorem kind_w21 (w:World):Calls Tryz.prog 24 #[.string { data:=#[115,116,114,111,110,103] }] w fun e w'=>e=.returned (.int .i64 4)∧w=w':=by
 go_enter Tryz.func24,Tryz.ntmps24
 go_wp2
 go_ret
 exact⟨rfl,rfl⟩
theorem kind_w22 (w:World):Calls Tryz.prog 24 #[.string { data:=#[115,117,98] }] w fun e w'=>e=.returned (.int .i64 4)∧w=w':=by
 go_enter Tryz.func24,Tryz.ntmps24
 go_wp2
 go_ret
 exact⟨rfl,rfl⟩
theorem kind_w23 (w:World):Calls Tryz.prog 24 #[.string { data:=#[115,117,112] }] w fun e w'=>e=.returned (.int .i64 4)∧w=w':=by
 go_enter Tryz.func24,Tryz.ntmps24
 go_wp2
 go_ret
 exact⟨rfl,rfl⟩
theorem kind_w24 (w:World):Calls Tryz.prog 24 #[.string { data:=#[117] }] w fun e w'=>e=.returned (.int .i64 4)∧w=w':=by
 go_enter Tryz.func24,Tryz.ntmps24
 go_wp2
 go_ret
 exact⟨rfl,rfl⟩
theorem kind_w25 (w:World):Calls Tryz.prog 24 #[.string { data:=#[98,114] }] w fun e w'=>e=.returned (.int .i64 5)∧w=w':=by
 go_enter Tryz.func24,Tryz.ntmps24
 go_wp2
 go_ret
 exact⟨rfl,rfl⟩
theorem kind_w26 (w:World):Calls Tryz.prog 24 #[.string { data:=#[105,109,103] }] w fun e w'=>e=.returned (.int .i64 5)∧w=w':=by
 go_enter Tryz.func24,Tryz.ntmps24
 go_wp2
 go_ret
 exact⟨rfl,rfl⟩
theorem kind_w27 (w:World):Calls Tryz.prog 24 #[.string { data:=#[104,114] }] w fun e w'=>e=.returned (.int .i64 6)∧w=w':=by
 go_enter Tryz.func24,Tryz.ntmps24
 go_wp2
 go_ret
 exact⟨rfl,rfl⟩
theorem kind_w28 (w:World):Calls Tryz.prog 24 #[.string { data:=#[111,108] }] w fun e w'=>e=.returned (.int .i64 7)∧w=w':=by
 go_enter Tryz.func24,Tryz.ntmps24
 go_wp2
 go_ret
 exact⟨rfl,rfl⟩
theorem kind_w29 (w:World):Calls Tryz.prog 24 #[.string { data:=#[117,108] }] w fun e w'=>e=.returned (.int .i64 7)∧w=w':=by
 go_enter Tryz.func24,Tryz.ntmps24
 go_wp2
 go_ret
 exact⟨rfl,rfl⟩
theorem kind_w30 (w:World):Calls Tryz.prog 24 #[.string { data:=#[108,105] }] w fun e w'=>e=.returned (.int .i64 8)∧w=w':=by
 go_enter Tryz.func24,Tryz.ntmps24
 go_wp2
 go_ret
 exact⟨rfl,rfl⟩
theorem kind_w31 (w:World):Calls Tryz.prog 24 #[.string { data:=#[116,97,98,108,101] }] w fun e w'=>e=.returned (.int .i64 9)∧w=w':=by
 go_enter Tryz.func24,Tryz.ntmps24
 go_wp2
 go_ret
 exact⟨rfl,rfl⟩
theorem kind_w32 (w:World):Calls Tryz.prog 24 #[.string { data:=#[99,97,112,116,105,111,110] }] w fun e w'=>e=.returned (.int .i64 10)∧w=w':=by
 go_enter Tryz.func24,Tryz.ntmps24
 go_wp2
 go_ret
 exact⟨rfl,rfl⟩
theorem kind_w33 (w:World):Calls Tryz.prog 24 #[.string { data:=#[116,98,111,100,121] }] w fun e w'=>e=.returned (.int .i64 11)∧w=w':=by
 go_enter Tryz.func24,Tryz.ntmps24
 go_wp2
 go_ret
 exact⟨rfl,rfl⟩
theorem kind_w34 (w:World):Calls Tryz.prog 24 #[.string { data:=#[116,102,111,111,116] }] w fun e w'=>e=.returned (.int .i64 11)∧w=w':=by
 go_enter Tryz.func24,Tryz.ntmps24
 go_wp2
 go_ret
 exact⟨rfl,rfl⟩
theorem kind_w35 (w:World):Calls Tryz.prog 24 #[.string { data:=#[116,104,101,97,100] }] w fun e w'=>e=.returned (.int .i64 11)∧w=w':=by
 go_enter Tryz.func24,Tryz.ntmps24
 go_wp2
 go_ret
 exact⟨rfl,rfl⟩
theorem kind_w36 (w:World):Calls Tryz.prog 24 #[.string { data:=#[116,114] }] w fun e w'=>e=.returned (.int .i64 12)∧w=w':=by
 go_enter Tryz.func24,Tryz.ntmps24
 go_wp2
 go_ret
 exact⟨rfl,rfl⟩
theorem kind_w37 (w:World):Calls Tryz.prog 24 #[.string { data:=#[116,100] }] w fun e w'=>e=.returned (.int .i64 13)∧w=w':=by
 go_enter Tryz.func24,Tryz.ntmps24
 go_wp2
 go_ret
 exact⟨rfl,rfl⟩
theorem kind_w38 (w:World):Calls Tryz.prog 24 #[.string { data:=#[116,104] }] w fun e w'=>e=.returned (.int .i64 13)∧w=w':=by
 go_enter Tryz.func24,Tryz.ntmps24
 go_wp2
 go_ret
 exact⟨rfl,rfl⟩
theorem kind_w39 (w:World):Calls Tryz.prog 24 #[.string { data:=#[97,112,112,108,101,116] }] w fun e w'=>e=.returned (.int .i64 1)∧w=w':=by
 go_enter Tryz.func24,Tryz.ntmps24
 go_wp2
 go_ret
 exact⟨rfl,rfl⟩
theorem kind_w40 (w:World):Calls Tryz.prog 24 #[.string { data:=#[97,117,100,105,111] }] w fun e w'=>e=.returned (.int .i64 1)∧w=w':=by
 go_enter Tryz.func24,Tryz.ntmps24
 go_wp2
 go_ret
 exact⟨rfl,rfl⟩
theorem kind_w41 (w:World):Calls Tryz.prog 24 #[.string { data:=#[98,97,115,101] }] w fun e w'=>e=.returned (.int .i64 1)∧w=w':=by
 go_enter Tryz.func24,Tryz.ntmps24
 go_wp2
 go_ret
 exact⟨rfl,rfl⟩
theorem kind_w42 (w:World):Calls Tryz.prog 24 #[.string { data:=#[98,117,116,116,111,110] }] w fun e w'=>e=.returned (.int .i64 1)∧w=w':=by
 go_enter Tryz.func24,Tryz.ntmps24
 go_wp2
 go_ret
 exact⟨rfl,rfl⟩
theorem kind_w43 (w:World):Calls Tryz.prog 24 #[.string { data:=#[99,97,110,118,97,115] }] w fun e w'=>e=.returned (.int .i64 1)∧w=w':=by
 go_enter Tryz.func24,Tryz.ntmps24
 go_wp2
 go_ret
 exact⟨rfl,rfl⟩
theorem kind_w44 (w:World):Calls Tryz.prog 24 #[.string { data:=#[101,109,98,101,100] }] w fun e w'=>e=.returned (.int .i64 1)∧w=w':=by
 go_enter Tryz.func24,Tryz.ntmps24
 go_wp2
 go_ret
 exact⟨rfl,rfl⟩
theorem kind_w45 (w:World):Calls Tryz.prog 24 #[.string { data:=#[102,114,97,109,101] }] w fun e w'=>e=.returned (.int .i64 1)∧w=w':=by
 go_enter Tryz.func24,Tryz.ntmps24
 go_wp2
 go_ret
 exact⟨rfl,rfl⟩
theorem kind_w46 (w:World):Calls Tryz.prog 24 #[.string { data:=#[102,114,97,109,101,115,101,116] }] w fun e w'=>e=.returned (.int .i64 1)∧w=w':=by
 go_enter Tryz.func24,Tryz.ntmps24
 go_wp2
 go_ret
 exact⟨rfl,rfl⟩
theorem kind_w47 (w:World):Calls Tryz.prog 24 #[.string { data:=#[104,101,97,100] }] w fun e w'=>e=.returned (.int .i64 1)∧w=w':=by
 go_enter Tryz.func24,Tryz.ntmps24
 go_wp2
 go_ret
 exact⟨rfl,rfl⟩
theorem kind_w48 (w:World):Calls Tryz.prog 24 #[.string { data:=#[105,102,114,97,109,101] }] w fun e w'=>e=.returned (.int .i64 1)∧w=w':=by
 go_enter Tryz.func24,Tryz.ntmps24
 go_wp2
 go_ret
 exact⟨rfl,rfl⟩
theorem kind_w49 (w:World):Calls Tryz.prog 24 #[.string { data:=#[105,110,112,117,116] }] w fun e w'=>e=.returned (.int .i64 1)∧w=w':=by
 go_enter Tryz.func24,Tryz.ntmps24
 go_wp2
 go_ret
 exact⟨rfl,rfl⟩
theorem kind_w50 (w:World):Calls Tryz.prog 24 #[.string { data:=#[108,105,110,107] }] w fun e w'=>e=.returned (.int .i64 1)∧w=w':=by
 go_enter Tryz.func24,Tryz.ntmps24
 go_wp2
 go_ret
 exact⟨rfl,rfl⟩
theorem kind_w51 (w:World):Calls Tryz.prog 24 #[.string { data:=#[109,101,116,97] }] w fun e w'=>e=.returned (.int .i64 1)∧w=w':=by
 go_enter Tryz.func24,Tryz.ntmps24
 go_wp2
 go_ret
 exact⟨rfl,rfl⟩
theorem kind_w52 (w:World):Calls Tryz.prog 24 #[.string { data:=#[110,111,101,109,98,101,100] }] w fun e w'=>e=.returned (.int .i64 1)∧w=w':=by
 go_enter Tryz.func24,Tryz.ntmps24
 go_wp2
 go_ret
 exact⟨rfl,rfl⟩
theorem kind_w53 (w:World):Calls Tryz.prog 24 #[.string { data:=#[110,111,102,114,97,109,101,115] }] w fun e w'=>e=.returned (.int .i64 1)∧w=w':=by
 go_enter Tryz.func24,Tryz.ntmps24
 go_wp2
 go_ret
 exact⟨rfl,rfl⟩
theorem kind_w54 (w:World):Calls Tryz.prog 24 #[.string { data:=#[111,98,106,101,99,116] }] w fun e w'=>e=.returned (.int .i64 1)∧w=w':=by
 go_enter Tryz.func24,Tryz.ntmps24
 go_wp2
 go_ret
 exact⟨rfl,rfl⟩
theorem kind_w55 (w:World):Calls Tryz.prog 24 #[.string { data:=#[111,112,116,105,111,110] }] w fun e w'=>e=.returned (.int .i64 1)∧w=w':=by
 go_enter Tryz.func24,Tryz.ntmps24
 go_wp2
 go_ret
 exact⟨rfl,rfl⟩
theorem kind_w56 (w:World):Calls Tryz.prog 24 #[.string { data:=#[112,97,114,97,109] }] w fun e w'=>e=.returned (.int .i64 1)∧w=w':=by
 go_enter Tryz.func24,Tryz.ntmps24
 go_wp2
 go_ret
 exact⟨rfl,rfl⟩
theorem kind_w57 (w:World):Calls Tryz.prog 24 #[.string { data:=#[115,99,114,105,112,116] }] w fun e w'=>e=.returned (.int .i64 1)∧w=w':=by
 go_enter Tryz.func24,Tryz.ntmps24
 go_wp2
 go_ret
 exact⟨rfl,rfl⟩
theorem kind_w58 (w:World):Calls Tryz.prog 24 #[.string { data:=#[115,101,108,101,99,116] }] w fun e w'=>e=.returned (.int .i64 1)∧w=w':=by
 go_enter Tryz.func24,Tryz.ntmps24
 go_wp2
 go_ret
 exact⟨rfl,rfl⟩
theorem kind_w59 (w:World):Calls Tryz.prog 24 #[.string { data:=#[115,116,121,108,101] }] w fun e w'=>e=.returned (.int .i64 1)∧w=w':=by
 go_enter Tryz.func24,Tryz.ntmps24
 go_wp2
 go_ret
 exact⟨rfl,rfl⟩
theorem kind_w60 (w:World):Calls Tryz.prog 24 #[.string { data:=#[116,101,109,112,108,97,116,101] }] w fun e w'=>e=.returned (.int .i64 1)∧w=w':=by
 go_enter Tryz.func24,Tryz.ntmps24
 go_wp2
 go_ret
 exact⟨rfl,rfl⟩
theorem kind_w61 (w:World):Calls Tryz.prog 24 #[.string { data:=#[116,101,120,116,97,114,101,97] }] w fun e w'=>e=.returned (.int .i64 1)∧w=w':=by
 go_enter Tryz.func24,Tryz.ntmps24
 go_wp2
 go_ret
 exact⟨rfl,rfl⟩
theorem kind_w62 (w:World):Calls Tryz.prog 24 #[.string { data:=#[116,105,116,108,101] }] w fun e w'=>e=.returned (.int .i64 1)∧w=w':=by
 go_enter Tryz.func24,Tryz.ntmps24
 go_wp2
 go_ret
 exact⟨rfl,rfl⟩
theorem kind_w63 (w:World):Calls Tryz.prog 24 #[.string { data:=#[118,105,100,101,111] }] w fun e w'=>e=.returned (.int .i64 1)∧w=w':=by
 go_enter Tryz.func24,Tryz.ntmps24
 go_wp2
 go_ret
 exact⟨rfl,rfl⟩
theorem kind_w64 (w:World):Calls Tryz.prog 24 #[.string { data:=#[120,109,112] }] w fun e w'=>e=.returned (.int .i64 1)∧w=w':=by
 go_enter Tryz.func24,Tryz.ntmps24
 go_wp2
 go_ret
 exact⟨rfl,rfl⟩
open Go.RowKit
theorem results_one {P:Program}{fn:Func}{t:Nat}{tmps:Array Value}{v:Value}(w:World)(h:fn.results=#[.tmp t])(hv:tmps.getD t undef=v):(results fn tmps).run P w=.ok v w:=by
 unfold results
 rw[h]
 rw[Array.getD_eq_getD_getElem?] at hv
 simp[hv]
theorem kind_none (s:ByteArray)(hN:∀ l:List UInt8,(kindTab.map (·.1)).contains l=true→(s.toList==(⟨l.toArray⟩:ByteArray).toList)=false)(w:World):Calls Tryz.prog 24 #[.string s] w fun e w'=>e=.returned (.int .i64 0)∧w=w':=by
 refine calls_of_wp Tryz.func24 rfl ?_
 have hC:Chain s 0 83 { tmps:=#[.string s]++Array.replicate (Tryz.f24.ntmps-(#[Value.string s]).size) undef,defers:=[] }:=chain_start s 82
 refine wp_seq (chain_const hC rfl ?_)
 clear hC
 intro a hC _
 refine wp_seq (wp_seq (chain_move hC rfl ?_))
 clear hC
 intro a hC
 refine then_normal (wp_block ?_)
 repeat' (first
  | (refine chain_no 9 s _ 3 83 (hN _ (by decide +kernel)) hC rfl ?_;clear hC;intro a hC hb)
  | (with_reducible refine then_normal ?_)
  | (with_reducible refine block_normal ?_)
  | (with_reducible refine wp_cond_false hb ?_)
  | (with_reducible refine wp_seq ?_)
  | (with_reducible refine wp_skip ?_))
 refine chain_const hC rfl ?_
 clear hC hb
 intro a hC he
 refine then_normal (wp_ret ?_)
 exact⟨hC.defers,.int .i64 0,results_one w rfl he,rfl,rfl⟩
theorem kind_all (w:World):∀ p∈kindTab,Calls Tryz.prog 24 #[.string ⟨p.1.toArray⟩] w fun e w'=>e=.returned (.int .i64 (p.2:Nat))∧w=w' :=
 List.forall_mem_cons.2 ⟨kind_w0 w,List.forall_mem_cons.2 ⟨kind_w1 w,List.forall_mem_cons.2 ⟨kind_w2 w,List.forall_mem_cons.2 ⟨kind_w3 w,List.forall_mem_cons.2 ⟨kind_w4 w,List.forall_mem_cons.2 ⟨kind_w5 w,List.forall_mem_cons.2 ⟨kind_w6 w,List.forall_mem_cons.2 ⟨kind_w7 w,List.forall_mem_cons.2 ⟨kind_w8 w,List.forall_mem_cons.2 ⟨kind_w9 w,List.forall_mem_cons.2 ⟨kind_w10 w,List.forall_mem_cons.2 ⟨kind_w11 w,List.forall_mem_cons.2 ⟨kind_w12 w,List.forall_mem_cons.2 ⟨kind_w13 w,List.forall_mem_cons.2 ⟨kind_w14 w,List.forall_mem_cons.2 ⟨kind_w15 w,List.forall_mem_cons.2 ⟨kind_w16 w,List.forall_mem_cons.2 ⟨kind_w17 w,List.forall_mem_cons.2 ⟨kind_w18 w,List.forall_mem_cons.2 ⟨kind_w19 w,List.forall_mem_cons.2 ⟨kind_w20 w,List.forall_mem_cons.2 ⟨kind_w21 w,List.forall_mem_cons.2 ⟨kind_w22 w,List.forall_mem_cons.2 ⟨kind_w23 w,List.forall_mem_cons.2 ⟨kind_w24 w,List.forall_mem_cons.2 ⟨kind_w25 w,List.forall_mem_cons.2 ⟨kind_w26 w,List.forall_mem_cons.2 ⟨kind_w27 w,List.forall_mem_cons.2 ⟨kind_w28 w,List.forall_mem_cons.2 ⟨kind_w29 w,List.forall_mem_cons.2 ⟨kind_w30 w,List.forall_mem_cons.2 ⟨kind_w31 w,List.forall_mem_cons.2 ⟨kind_w32 w,List.forall_mem_cons.2 ⟨kind_w33 w,List.forall_mem_cons.2 ⟨kind_w34 w,List.forall_mem_cons.2 ⟨kind_w35 w,List.forall_mem_cons.2 ⟨kind_w36 w,List.forall_mem_cons.2 ⟨kind_w37 w,List.forall_mem_cons.2 ⟨kind_w38 w,List.forall_mem_cons.2 ⟨kind_w39 w,List.forall_mem_cons.2 ⟨kind_w40 w,List.forall_mem_cons.2 ⟨kind_w41 w,List.forall_mem_cons.2 ⟨kind_w42 w,List.forall_mem_cons.2 ⟨kind_w43 w,List.forall_mem_cons.2 ⟨kind_w44 w,List.forall_mem_cons.2 ⟨kind_w45 w,List.forall_mem_cons.2 ⟨kind_w46 w,List.forall_mem_cons.2 ⟨kind_w47 w,List.forall_mem_cons.2 ⟨kind_w48 w,List.forall_mem_cons.2 ⟨kind_w49 w,List.forall_mem_cons.2 ⟨kind_w50 w,List.forall_mem_cons.2 ⟨kind_w51 w,List.forall_mem_cons.2 ⟨kind_w52 w,List.forall_mem_cons.2 ⟨kind_w53 w,List.forall_mem_cons.2 ⟨kind_w54 w,List.forall_mem_cons.2 ⟨kind_w55 w,List.forall_mem_cons.2 ⟨kind_w56 w,List.forall_mem_cons.2 ⟨kind_w57 w,List.forall_mem_cons.2 ⟨kind_w58 w,List.forall_mem_cons.2 ⟨kind_w59 w,List.forall_mem_cons.2 ⟨kind_w60 w,List.forall_mem_cons.2 ⟨kind_w61 w,List.forall_mem_cons.2 ⟨kind_w62 w,List.forall_mem_cons.2 ⟨kind_w63 w,List.forall_mem_cons.2 ⟨kind_w64 w,fun _ h=>by cases h⟩⟩⟩⟩⟩⟩⟩⟩⟩⟩⟩⟩⟩⟩⟩⟩⟩⟩⟩⟩⟩⟩⟩⟩⟩⟩⟩⟩⟩⟩⟩⟩⟩⟩⟩⟩⟩⟩⟩⟩⟩⟩⟩⟩⟩⟩⟩⟩⟩⟩⟩⟩⟩⟩⟩⟩⟩⟩⟩⟩⟩⟩⟩⟩⟩
theorem kind_any (s:ByteArray)(w:World):Calls Tryz.prog 24 #[.string s] w fun e w'=>e=.returned (.int .i64 (kindL s.data.toList:Nat))∧w=w':=by
 by_cases h:s.data.toList∈kindTab.map (·.1)
 ·obtain⟨p,hp,e⟩:=List.mem_map.1 h
  have hk:=kind_all w p hp
  rw[e] at hk
  rw[← e,(kinds_in p hp).2]
  exact hk
 ·rw[kindL_none _ h]
  refine kind_none s (fun l hl=>?_) w
  rw[beq_eq_false_iff_ne]
  intro e
  rw[toList_data,toList_data] at e
  apply h
  have e2:s.data.toList=l:=e
  rw[e2]
  simpa using hl
end Go.Proofs.YtcfgbdhpcboikaaGreatDoor
