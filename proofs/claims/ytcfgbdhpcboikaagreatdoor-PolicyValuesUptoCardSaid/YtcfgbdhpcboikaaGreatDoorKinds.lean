/-
The kinds of elements, by name: the program's table and the document's lists. No program in sight.
-/
import Derived.Test.YtcfgbdhpcboikaaGreatDoorTextLaw
import Derived.Test.YtcfgbdhpcboikaaGreatDoorShelf
namespace Go.Proofs.YtcfgbdhpcboikaaGreatDoor
open Go.Lib (hid)
set_option maxHeartbeats 16000000
set_option maxRecDepth 100000
def eD:List (List UInt8 × Nat):=[([98,111,100,121],14),
 ([100,105,118],2),
 ([98,108,111,99,107,113,117,111,116,101],2),
 ([112],3),
 ([104,49],3),
 ([104,50],3),
 ([104,51],3),
 ([104,52],3),
 ([104,53],3),
 ([104,54],3),
 ([112,114,101],3),
 ([97],4),
 ([98],4),
 ([99,111,100,101],4),
 ([101,109],4),
 ([105],4),
 ([109,101,116,101,114],4),
 ([112,114,111,103,114,101,115,115],4),
 ([115],4),
 ([115,109,97,108,108],4),
 ([115,112,97,110],4),
 ([115,116,114,111,110,103],4),
 ([115,117,98],4),
 ([115,117,112],4),
 ([117],4),
 ([98,114],5),
 ([105,109,103],5),
 ([104,114],6),
 ([111,108],7),
 ([117,108],7),
 ([108,105],8),
 ([116,97,98,108,101],9),
 ([99,97,112,116,105,111,110],10),
 ([116,98,111,100,121],11),
 ([116,102,111,111,116],11),
 ([116,104,101,97,100],11),
 ([116,114],12),
 ([116,100],13),
 ([116,104],13),
 ([97,112,112,108,101,116],1),
 ([97,117,100,105,111],1),
 ([98,97,115,101],1),
 ([98,117,116,116,111,110],1),
 ([99,97,110,118,97,115],1),
 ([101,109,98,101,100],1),
 ([102,114,97,109,101],1),
 ([102,114,97,109,101,115,101,116],1),
 ([104,101,97,100],1),
 ([105,102,114,97,109,101],1),
 ([105,110,112,117,116],1),
 ([108,105,110,107],1),
 ([109,101,116,97],1),
 ([110,111,101,109,98,101,100],1),
 ([110,111,102,114,97,109,101,115],1),
 ([111,98,106,101,99,116],1),
 ([111,112,116,105,111,110],1),
 ([112,97,114,97,109],1),
 ([115,99,114,105,112,116],1),
 ([115,101,108,101,99,116],1),
 ([115,116,121,108,101],1),
 ([116,101,109,112,108,97,116,101],1),
 ([116,101,120,116,97,114,101,97],1),
 ([116,105,116,108,101],1),
 ([118,105,100,101,111],1),
 ([120,109,112],1)]
def bO:List (List UInt8):=[[],
 [97,112,112,108,101,116,32,97,117,100,105,111,32,98,97,115,101,32,98,117,116,116,111,110,32,99,97,110,118,97,115,32,101,109,98,101,100,32,102,114,97,109,101,32,102,114,97,109,101,115,101,116,32,104,101,97,100,32,105,102,114,97,109,101,32,105,110,112,117,116,32,108,105,110,107,32,109,101,116,97,32,110,111,101,109,98,101,100,32,110,111,102,114,97,109,101,115,32,111,98,106,101,99,116,32,111,112,116,105,111,110,32,112,97,114,97,109,32,115,99,114,105,112,116,32,115,101,108,101,99,116,32,115,116,121,108,101,32,116,101,109,112,108,97,116,101,32,116,101,120,116,97,114,101,97,32,116,105,116,108,101,32,118,105,100,101,111,32,120,109,112],
 [100,105,118,32,98,108,111,99,107,113,117,111,116,101],
 [112,32,104,49,32,104,50,32,104,51,32,104,52,32,104,53,32,104,54,32,112,114,101],
 [97,32,98,32,99,111,100,101,32,101,109,32,105,32,109,101,116,101,114,32,112,114,111,103,114,101,115,115,32,115,32,115,109,97,108,108,32,115,112,97,110,32,115,116,114,111,110,103,32,115,117,98,32,115,117,112,32,117],
 [98,114,32,105,109,103],
 [104,114],
 [111,108,32,117,108],
 [108,105],
 [116,97,98,108,101],
 [99,97,112,116,105,111,110],
 [116,98,111,100,121,32,116,102,111,111,116,32,116,104,101,97,100],
 [116,114],
 [116,100,32,116,104],
 [98,111,100,121]]
def cH (n:List UInt8):Nat:=((eD.find? fun p=>p.1==n).map (·.2)).getD 0
def eQ:List UInt8→List UInt8→List (List UInt8)
 | cur,[]=>if cur.isEmpty then []else [cur]
 | cur,c :: l=>if c=32 then (if cur.isEmpty then eQ [] l else cur :: eQ [] l)else eQ (cur++[c]) l
def vX (l:List UInt8):List (List UInt8):=eQ [] l
def inB (w l:List UInt8):Bool:=(vX l).contains w
def oG (n:List UInt8):List (List UInt8)→Nat→Nat
 | [],_=>0
 | l :: r,i=>if inB n l then i else oG n r (i+1)
theorem aJK (n:List UInt8)(ls:List (List UInt8))(i:Nat)(h:∀l∈ls,inB n l=false):oG n ls i=0:=by
 induction ls generalizing i with
 | nil=>rfl
 | cons l r ih =>
  unfold oG;rw[h l (List.mem_cons_self ..)];exact ih (i+1) fun x hx=>h x (List.mem_cons_of_mem _ hx)
theorem sR:∀p∈eD,oG p.1 bO 0=p.2∧cH p.1=p.2:=by decide +kernel
theorem aEi:∀l∈bO,∀w∈vX l,w∈eD.map (·.1):=by decide +kernel
theorem sQ (n:List UInt8)(h:n∉eD.map (·.1)):cH n=0:=by
 unfold cH;have:(eD.find? fun p=>p.1==n)=none:=by
  rw[List.find?_eq_none];intro p hp he;apply h;have e:p.1=n:=by simpa using he
  rw[←e];exact List.mem_map_of_mem hp
 rw[this];rfl
theorem aHH (n:List UInt8):oG n bO 0=cH n:=by
 by_cases h:n∈eD.map (·.1)
 ·obtain⟨p,hp,rfl⟩:=List.mem_map.1 h;rw[(sR p hp).1,(sR p hp).2]
 ·rw[sQ n h,aJK];intro l hl;unfold inB;rw[Bool.eq_false_iff];intro hc;exact h (aEi l hl n (by simpa using hc))
theorem aJP (n:List UInt8):cH n≤14:=by
 by_cases h:n∈eD.map (·.1)
 ·obtain⟨p,hp,rfl⟩:=List.mem_map.1 h;rw[(sR p hp).2];have:∀p∈eD,p.2≤14:=by decide +kernel
  exact this p hp
 ·rw[sQ n h];omega
def iP (p k:Nat)(same:Bool):Bool :=
 if p=14∨p=2∨p=8∨p=13 then decide (2≤k)&&decide (k≤7)||decide (k=9)
 else if p=3∨p=10 then decide (k=4)||decide (k=5)
 else if p=4 then decide (k=4)&&!same||decide (k=5)
 else if p=7 then decide (k=8)
 else if p=9 then decide (k=10)||decide (k=11)
 else if p=11 then decide (k=12)
 else if p=12 then decide (k=13)
 else false
def aBa (p k:List UInt8):Bool:=iP (cH p) (cH k) (k==p)
open Go.RowKit
structure fV (s:ByteArray) (k n:Nat) (a:Act):Prop where
 size:a.tmps.size=n
 word:a.tmps[k]?=some (.string s)
 defers:a.defers=[]
theorem fV.put {s:ByteArray}{k n:Nat}{a:Act}(h:fV s k n a)(t:Nat)(v:Value)(ht:t≠k):fV s k n (a.put (some t) v) :=
 ⟨by simp[Act.put,h.size],by simp[Act.put,ht,h.word],h.defers⟩
theorem fV.eval {s:ByteArray}{k n:Nat}{a:Act}(h:fV s k n a):a.eval (.tmp k)=.string s:=by
 simp[Act.eval,Array.getD_eq_getD_getElem?,h.word]
theorem pB {a:Act}{t:Nat}{v:Value}(h:t<a.tmps.size):(a.put (some t) v).eval (.tmp t)=v:=by
 simp[Act.eval,Act.put,Array.getD_eq_getD_getElem?,h]
theorem aJh {P:Program}{Q:Exit→Act→World→Prop}{w:World}(T B:TypeId)(s c:ByteArray)(k n ta tc:Nat)(hta:ta≠k)(htc:tc≠k)(hna:ta<n)(hnc:tc<n)
  {rid:Nat} {p1 p2:String} {f1 f2:Array Edge} {a:Act} (hC:fV s k n a)
  (h:∀a',fV s k n a'→a'.eval (.tmp tc)=.bool (s.toList==c.toList)→Q .normal a' w) :
  (Code.region rid #[{ dst:=some ta,op:=Op.binOp BinOp.eql T (Operand.tmp k) (Operand.const (Value.string c)) T,type:=B,pos:=p1,after:=f1,guard:=none },
   { dst:=some tc,op:=Op.assign (Operand.tmp ta),type:=B,pos:=p2,after:=f2,guard:=none }] false).wp P Q a w:=by
 have h1:=hC.put ta (.bool (s.toList==c.toList)) hta;have e1:=pB (a:=a) (t:=ta) (v:=.bool (s.toList==c.toList)) (by rw[hC.size];exact hna);have h2:=h1.put tc (.bool (s.toList==c.toList)) htc;have e2:=pB (a:=a.put (some ta) (.bool (s.toList==c.toList))) (t:=tc) (v:=.bool (s.toList==c.toList)) (by rw[h1.size];exact hnc);have ev:=hC.eval;have ec:a.eval (.const (.string c))=.string c:=rfl;refine wp_region_lit (l:=[_,_]) ?_;refine wpList_plain rfl fun K hK=>?_
 have hx:=hK _ _ (wpList_plain (P:=P) (w:=w) (rest:=[]) (o:={ dst:=some tc,op:=Op.assign (Operand.tmp ta),type:=B,pos:=p2,after:=f2,guard:=none }) (a:=a.put (some ta) (.bool (s.toList==c.toList))) rfl fun K2 hK2=>by
  have:=hK2 _ _ (wpList_nil (h _ h2 e2));unfold Oper.wp;simp[execOp,e1,Oper.upon];exact this)
 unfold Oper.wp;simp[execOp,eqGuard,ev,ec,binOp_string_eql,Oper.upon];exact hx
theorem wX {P:Program}{Q:Exit→Act→World→Prop}{w:World}(T:TypeId)(s c:ByteArray)(k n:Nat)(hne:(s.toList==c.toList)=false)
  {B:TypeId} {ta tc:Nat} {rid:Nat} {p1 p2:String} {f1 f2:Array Edge} {a:Act} (hC:fV s k n a) (hta:(ta !=k&&tc !=k&&decide (ta<n)&&decide (tc<n))=true)
  (h:∀a',fV s k n a'→a'.eval (.tmp tc)=.bool false→Q .normal a' w) :
  (Code.region rid #[{ dst:=some ta,op:=Op.binOp BinOp.eql T (Operand.tmp k) (Operand.const (Value.string c)) T,type:=B,pos:=p1,after:=f1,guard:=none },
   { dst:=some tc,op:=Op.assign (Operand.tmp ta),type:=B,pos:=p2,after:=f2,guard:=none }] false).wp P Q a w:=by
 simp only[Bool.and_eq_true,bne_iff_ne,ne_eq,decide_eq_true_eq]at hta;exact aJh T B s c k n ta tc hta.1.1.1 hta.1.1.2 hta.1.2 hta.2 hC fun a' h1 h2=>h a' h1 (by rw[h2,hne])
theorem wF {P:Program}{Q:Exit→Act→World→Prop}{w:World}{s:ByteArray}{k n:Nat}{B:TypeId}{t:Nat}{v:Value}{rid:Nat}{p1:String}{f1:Array Edge}{a:Act}(hC:fV s k n a)(ht:(t !=k&&decide (t<n))=true)
  (h:∀a',fV s k n a'→a'.eval (.tmp t)=v→Q .normal a' w) :
  (Code.region rid #[{ dst:=some t,op:=Op.assign (Operand.const v),type:=B,pos:=p1,after:=f1,guard:=none }] false).wp P Q a w:=by
 simp only[Bool.and_eq_true,bne_iff_ne,ne_eq,decide_eq_true_eq]at ht;have h1:=hC.put t v ht.1;have e1:=pB (a:=a) (t:=t) (v:=v) (by rw[hC.size];exact ht.2);have ec:a.eval (.const v)=v:=rfl;refine wp_region_lit (l:=[_]) ?_;refine wpList_plain rfl fun K hK=>?_
 have hx:=hK _ _ (wpList_nil (h _ h1 e1));unfold Oper.wp;simp[execOp,ec,Oper.upon];exact hx
theorem aFB {P:Program}{Q:Exit→Act→World→Prop}{w:World}{s:ByteArray}{k n:Nat}{B:TypeId}{t:Nat}{rid:Nat}{p1:String}{f1:Array Edge}{a:Act}(hC:fV s k n a)(ht:decide (t<n)=true)
  (h:∀a',fV s t n a'→Q .normal a' w) :
  (Code.region rid #[{ dst:=some t,op:=Op.move (Operand.tmp k),type:=B,pos:=p1,after:=f1,guard:=none }] false).wp P Q a w:=by
 simp only[decide_eq_true_eq]at ht;have ev:=hC.eval;have h1:fV s t n (a.put (some t) (.string s)):=⟨by simp[Act.put,hC.size],by simp[Act.put,hC.size,ht],hC.defers⟩
 refine wp_region_lit (l:=[_]) ?_;refine wpList_plain rfl fun K hK=>?_
 have hx:=hK _ _ (wpList_nil (h _ h1));unfold Oper.wp;simp[execOp,ev,Oper.upon];exact hx
theorem kN {next:Act→World→Prop}{Q:Exit→Act→World→Prop}{a:Act}{w:World}(h:next a w):Exit.then next Q .normal a w:=h
theorem tZ {id:Nat}{Q:Exit→Act→World→Prop}{a:Act}{w:World}(h:Q .normal a w):Exit.inBlock id Q .normal a w:=h
theorem aD5 (s:ByteArray)(m:Nat):fV s 0 (m+1) { tmps:=#[Value.string s]++Array.replicate m undef,defers:=[] } :=
 ⟨by simp;omega,by rw[Array.getElem?_append_left (by simp)];rfl,rfl⟩
open Go.RowKit
theorem aDS (bs:ByteArray):∀(k i:Nat) (r:List UInt8),bs.size-i=k→ByteArray.toList.loop bs i r=r.reverse++bs.data.toList.drop i:=by
 intro k;induction k with
 | zero =>
  intro i r h;rw[ByteArray.toList.loop,if_neg (by omega)];have hs:bs.data.toList.length=bs.size:=by simp
  rw[List.drop_eq_nil_of_le (by omega),List.append_nil]
 | succ k ih =>
  intro i r h;have hs:bs.data.toList.length=bs.size:=by simp
  rw[ByteArray.toList.loop,if_pos (by omega),ih _ _ (by omega)];rw[List.drop_eq_getElem_cons (i:=i) (by omega)];have e:bs.get! i=bs.data.toList[i]'(by omega):=by
   unfold ByteArray.get!;have:i<bs.data.size:=by simpa using (by omega:i<bs.size)
   exact getElem!_pos bs.data i this
  rw[e];simp
theorem toList_data (bs:ByteArray):bs.toList=bs.data.toList:=by
 unfold ByteArray.toList;rw[aDS bs _ 0 [] rfl];simp
def KW (p:List UInt8 × Nat):Prop:=∀w:World,Calls Tryz.prog 24 #[.string ⟨p.1.toArray⟩] w fun e w'=>e=.returned (.int .i64 (p.2:Nat))∧w=w'
theorem aJQ:∀p∈eD,KW p:=by
 unfold eD;repeat' (first|exact List.forall_mem_nil _|refine List.forall_mem_cons.2 ⟨?_,?_⟩)
 all_goals (unfold KW;intro w;dsimp only;go_enter Tryz.func24,Tryz.ntmps24;go_wp2;go_ret;exact⟨rfl,rfl⟩)
open Go.RowKit
theorem aEu {P:Program}{fn:Func}{t:Nat}{tmps:Array Value}{v:Value}(w:World)(h:fn.results=#[.tmp t])(hv:tmps.getD t undef=v):(results fn tmps).run P w=.ok v w:=by
 unfold results;rw[h];rw[Array.getD_eq_getD_getElem?]at hv
 simp[hv]
theorem aHG (s:ByteArray)(hN:∀l:List UInt8,(eD.map (·.1)).contains l=true→(s.toList==(⟨l.toArray⟩:ByteArray).toList)=false)(w:World):Calls Tryz.prog 24 #[.string s] w fun e w'=>e=.returned (.int .i64 0)∧w=w':=by
 refine calls_of_wp Tryz.func24 rfl ?_;have hC:fV s 0 83 { tmps:=#[.string s]++Array.replicate (Tryz.f24.ntmps-(#[Value.string s]).size) undef,defers:=[] }:=aD5 s 82;refine wp_seq (wF hC rfl ?_);clear hC;intro a hC _;refine wp_seq (wp_seq (aFB hC rfl ?_));clear hC;intro a hC;refine kN (wp_block ?_);repeat' (first
  | (refine wX 9 s _ 3 83 (hN _ (by decide +kernel)) hC rfl ?_;clear hC;intro a hC hb)
  | (with_reducible refine kN ?_)
  | (with_reducible refine tZ ?_)
  | (with_reducible refine wp_cond_false hb ?_)
  | (with_reducible refine wp_seq ?_)
  | (with_reducible refine wp_skip ?_))
 refine wF hC rfl ?_;clear hC hb;intro a hC he;refine kN (wp_ret ?_);exact⟨hC.defers,.int .i64 0,aEu w rfl he,rfl,rfl⟩
theorem kY (s:ByteArray)(w:World):Calls Tryz.prog 24 #[.string s] w fun e w'=>e=.returned (.int .i64 (cH s.data.toList:Nat))∧w=w':=by
 by_cases h:s.data.toList∈eD.map (·.1)
 ·obtain⟨p,hp,e⟩:=List.mem_map.1 h;have hk:=aJQ p hp w;rw[e]at hk
  rw[←e,(sR p hp).2];exact hk
 ·rw[sQ _ h];refine aHG s (fun l hl=>?_) w;rw[beq_eq_false_iff_ne];intro e;rw[toList_data,toList_data]at e
  apply h;have e2:s.data.toList=l:=e;rw[e2];simpa using hl
open Go.RowKit PU8
def bK (w:World)(g off:Nat)(L:List UInt8):Prop:=∀j (h:j<L.length),w.cell? ⟨g,off+j,none⟩=some (.int .u8 (L[j].toNat:Nat))
theorem sX (L:List UInt8)(k:Nat)(h:k<L.length):aF (L.drop k)=L[k].toNat :: aF (L.drop (k+1)):=by
 rw[List.drop_eq_getElem_cons h];rfl
theorem aHP (L:List UInt8)(k:Nat)(h:L.length≤k):aF (L.drop k)=[]:=by
 rw[List.drop_eq_nil_of_le h];rfl
def fY (L:List UInt8)(i need m:Nat)(t:Bool)(n lo hi:Nat):Prop :=
 1≤n∧n≤need+1∧i+n≤L.length∧contU (need+1-n) lo hi n (aF (L.drop (i+n)))=(m,t)
theorem fY.stop {L:List UInt8}{i need m:Nat}{t:Bool}{n lo hi:Nat}(h:fY L i need m t n lo hi)(hn:n=need+1):m=n∧t=true:=by
 obtain⟨_,_,_,h⟩:=h;rw[hn,Nat.sub_self]at h
 unfold contU at h;cases h;exact⟨hn.symm,rfl⟩
theorem fY.short {L:List UInt8}{i need m:Nat}{t:Bool}{n lo hi:Nat}(h:fY L i need m t n lo hi)(hn:n≤need)(he:i+n=L.length):m=n∧t=false:=by
 obtain⟨_,_,_,h⟩:=h;obtain⟨k,hk⟩:∃k,need+1-n=k+1:=⟨need-n,by omega⟩
 rw[hk,aHP _ _ (by omega)]at h
 unfold contU at h;cases h;exact⟨rfl,rfl⟩
theorem fY.bad {L:List UInt8}{i need m:Nat}{t:Bool}{n lo hi:Nat}(h:fY L i need m t n lo hi)(hn:n≤need)(he:i+n<L.length)(hb:L[i+n].toNat<lo∨hi<L[i+n].toNat):m=n∧t=false:=by
 obtain⟨_,_,_,h⟩:=h;obtain⟨k,hk⟩:∃k,need+1-n=k+1:=⟨need-n,by omega⟩
 rw[hk,sX _ _ he]at h
 unfold contU at h;rw[if_pos hb]at h
 cases h;exact⟨rfl,rfl⟩
theorem fY.next {L:List UInt8}{i need m:Nat}{t:Bool}{n lo hi:Nat}(h:fY L i need m t n lo hi)(hn:n≤need)(he:i+n<L.length)(hb:¬(L[i+n].toNat<lo∨hi<L[i+n].toNat)):fY L i need m t (n+1) 128 191:=by
 obtain⟨h1,_,_,h⟩:=h;obtain⟨k,hk⟩:∃k,need+1-n=k+1:=⟨need-n,by omega⟩
 rw[hk,sX _ _ he]at h
 unfold contU at h;rw[if_neg hb]at h
 refine⟨by omega,by omega,by omega,?_⟩;rw[show need+1-(n+1)=k by omega];exact h
theorem jB (g off cap i m c N l0 h0:Nat)(t:Bool)(L:List UInt8)(w:World)(hB:Hid (bK w g off L))(hi:i<L.length)(hL:L.length≤140737488355328)(hc:w.cell? ⟨g,off+i,none⟩=some (.int .u8 (c:Nat)))(h0c:194≤c)
  (hcc:c<224∧N=1∧l0=128∧h0=191∨c=224∧N=2∧l0=160∧h0=191∨c=237∧N=2∧l0=128∧h0=159∨(225≤c∧c<240∧c≠237)∧N=2∧l0=128∧h0=191∨c=240∧N=3∧l0=144∧h0=191∨(241≤c∧c<244)∧N=3∧l0=128∧h0=191∨c=244∧N=3∧l0=128∧h0=143)
  (hR:Hid (fY L i N m t 1 l0 h0)):Calls Tryz.prog 129 #[.slice (some ⟨g,off,none⟩) L.length cap,.int .i64 i] w fun e w'=>e=.returned (.tuple #[.int .i64 m,.bool t])∧w=w':=by
 have l128:decide ((c:Int)<128)=false:=by simp;omega
 have l194:decide ((c:Int)<194)=false:=by simp;omega
 rcases hcc with⟨hc2,hN,rfl,rfl⟩|⟨hc2,hN,rfl,rfl⟩|⟨hc2,hN,rfl,rfl⟩|⟨hc2,hN,rfl,rfl⟩|⟨hc2,hN,rfl,rfl⟩|⟨hc2,hN,rfl,rfl⟩|⟨hc2,hN,rfl,rfl⟩
 all_goals (first|have f224:decide ((c:Int)<224)=true:=(by simp;omega)|have f224:decide ((c:Int)<224)=false:=(by simp;omega)|skip)
 all_goals (first|have f240:decide ((c:Int)<240)=true:=(by simp;omega)|have f240:decide ((c:Int)<240)=false:=(by simp;omega)|skip)
 all_goals (first|have f244:decide ((c:Int)<244)=true:=(by simp;omega)|have f244:decide ((c:Int)<244)=false:=(by simp;omega)|skip)
 all_goals (first|have f224q:((c:Int)==224)=true:=(by simp;omega)|have f224q:((c:Int)==224)=false:=(by simp;omega)|skip)
 all_goals (first|have f237q:((c:Int)==237)=true:=(by simp;omega)|have f237q:((c:Int)==237)=false:=(by simp;omega)|skip)
 all_goals (first|have f240q:((c:Int)==240)=true:=(by simp;omega)|have f240q:((c:Int)==240)=false:=(by simp;omega)|skip)
 all_goals (first|have f244q:((c:Int)==244)=true:=(by simp;omega)|have f244q:((c:Int)==244)=false:=(by simp;omega)|skip)
 all_goals (have HN:=hid hN)
 all_goals (have HCC:=hid hc2)
 all_goals clear hN hc2
 all_goals (go_enter Tryz.func129,Tryz.ntmps129)
 all_goals go_wp2
 all_goals clear hc l128 l194
 all_goals ((try clear f224);(try clear f240);(try clear f244);(try clear f224q);(try clear f237q);(try clear f240q);(try clear f244q))
 all_goals (
  go_loop [4,5,8,9,10] (fun r4 r5 l h n=>r4=.int .i64 0∧r5=.bool false∧∃n' lo hi:Nat,n=.int .i64 n'∧l=.int .u8 lo∧h=.int .u8 hi∧Hid (fY L i N m t n' lo hi)) (fun _ _ _ _ n=>N+1-(intOf n).toNat)
  case atStart=>exact⟨rfl,rfl,1,_,_,rfl,rfl,rfl,hR⟩
  case round =>
   obtain⟨rfl,rfl,n,lo,hi',rfl,rfl,rfl,hQ⟩:=hrel;have n1:1≤n:=hQ.out.1;have n2:n≤3+1:=by have h1:=hQ.out.2.1;have h2:=HN.out;omega
   have n3:i+n≤L.length:=hQ.out.2.2.1;rcases Nat.lt_or_ge N n with hn|hn
   ·have hE:=hQ.out.stop (by have h1:=hQ.out.2.1;omega);have HE:=hid hE;clear hE;rw[HN.out]at hn
    go_wp2
    go_ret2;refine⟨?_,rfl⟩;rw[HE.out.1,HE.out.2];rfl
   ·rcases Nat.lt_or_ge (i+n) L.length with hlt|hge
    ·have hcell:=hB.out (i+n) hlt;by_cases hbad:L[i+n].toNat<lo∨hi'<L[i+n].toNat
     ·have HE:=hid (hQ.out.bad hn hlt hbad);rw[HN.out]at hn
      have HQ2:=hid hbad;generalize L[i+n].toNat=d at hcell hbad;have hne:((i:Int)+(n:Int)==(L.length:Int))=false:=by rw[beq_eq_false_iff_ne];omega
      rcases Nat.lt_or_ge d lo with hd|hd
      ·clear hbad HQ2;go_wp2
       go_ret2;refine⟨?_,rfl⟩;rw[HE.out.1,HE.out.2];rfl
      ·have hd2:hi'<d:=by omega
       clear hbad HQ2;go_wp2
       go_ret2;refine⟨?_,rfl⟩;rw[HE.out.1,HE.out.2];rfl
     ·have HE:=hid (hQ.out.next hn hlt hbad);rw[HN.out]at hn
      generalize L[i+n].toNat=d at hcell hbad;have hne:((i:Int)+(n:Int)==(L.length:Int))=false:=by rw[beq_eq_false_iff_ne];omega
      have hd1:lo≤d:=by omega
      have hd2:d≤hi':=by omega
      clear hbad;go_wp2
      go_round
      case rel=>exact⟨rfl,rfl,n+1,128,191,by go_num,rfl,rfl,HE⟩
      case measure=>have h2:=HN.out;simp[intOf];omega
    ·have he:i+n=L.length:=by omega
     have HE:=hid (hQ.out.short hn he);rw[HN.out]at hn
     have heq:((i:Int)+(n:Int)==(L.length:Int))=true:=by rw[beq_iff_eq];omega
     clear he;go_wp2
     go_ret2;refine⟨?_,rfl⟩;rw[HE.out.1,HE.out.2];rfl)
open Go.RowKit
theorem Tryz.info5:(Tryz.prog.info? 5).map (fun i=>(i.zero,i.size,i.bytes))=some (some (.int .u8 0),1,1):=by kernel_rfl
theorem bK.below {w w':World}{g off B:Nat}{L:List UInt8}(h:bK w g off L)(hb:Below B w w')(hg:g<B):bK w' g off L:=by
 intro j hj;rw[hb.cell (p:=⟨g,off+j,none⟩) hg];exact h j hj
theorem bK.news {w:World}{g off:Nat}{L:List UInt8}(h:bK w g off L):∀j u,(Lib.byteCells L)[j]?=some u→w.cell? ((⟨g,off,none⟩:Addr).add j)=some u:=by
 intro j u hu;unfold Lib.byteCells at hu;rw[List.getElem?_map]at hu
 rcases Nat.lt_or_ge j L.length with hj|hj
 ·rw[List.getElem?_eq_getElem hj]at hu
  simp at hu;have hadd:(⟨g,off,none⟩:Addr).add j=⟨g,off+j,none⟩:=by unfold Addr.add;split<;>simp_all
  rw[hadd,h j hj,hu]
 ·rw[List.getElem?_eq_none hj]at hu
  simp at hu
theorem tL (L:List UInt8):∀u∈Lib.byteCells L,u.oneCell'=true:=by
 intro u hu;unfold Lib.byteCells at hu;obtain⟨b,_,rfl⟩:=List.mem_map.1 hu;rfl
theorem iJ (L:List UInt8):(Lib.byteCells L).length=L.length:=by unfold Lib.byteCells;simp
theorem aMI (B b:Nat)(bs:List Value)(g off cap n:Nat)(L:List UInt8)(hn:L.length=n)(w:World)(h:Lib.IsBuilderF 112 5 B b bs w)(hsrc:Hid (bK w g off L))(hgB:g<B)(hlen:bs.length+L.length≤140737488355328)(hBw:B≤w.heap.size) :
  Calls Tryz.prog 130 #[.pointer (some ⟨b,0,none⟩),.slice (some ⟨g,off,none⟩) n cap] w fun e w'=>e=.returned (.tuple #[.int .i64 n,.nilIface])∧(Lib.BuilderAtF 112 5 B b (.pointer (some ⟨b,0,none⟩)) (bs++Lib.byteCells L) w'∧Below B w w'∧Lib.OthersKept 5 (some b) w w'):=by
 subst hn;obtain⟨i0,hi,hz0,hz1,hz2⟩:=info_parts Tryz.info5;go_enter Tryz.func130,Tryz.ntmps130
 go_wp2_with (go_at_call 156;refine(Tryz.Builder_copyCheck_k B b bs _ h).mono ?_)
 rintro e w1 ⟨rfl,h1,hb1,hk1⟩;obtain⟨hB,v,hbk,hown,hne⟩:=h1;have hs1:Hid (bK w1 g off L):=hsrc.out.below hb1 hgB;have c0:w1.cell? ⟨b,0,none⟩=some (.pointer (some ⟨b,0,none⟩)):=by rw[Lib.cell_of_heap hbk];rfl
 have c1:w1.cell? ⟨b,1,none⟩=some v:=by rw[Lib.cell_of_heap hbk];rfl
 go_wp2_with (at_builtin;refine wpList_append_ownF _ rfl _ _ 35 rfl B 5 i0 (.int .u8 0) 1 1 Tryz.underlying35 hi hz0 hz1 hz2 rfl (by decide) _ _ _ rfl hown ⟨g,off,none⟩ L.length cap (Lib.byteCells L) rfl ?c1 hs1.out.news (tL L) ?c3 ?c4 ?c5 ?_)
 case c1=>rw[iJ,Nat.mul_one]
 case c3=>unfold maxLen;omega
 case c4=>omega
 case c5=>have:=hb1.size;omega
 intro v' w2 hown' hgrow _;have hlt:b<w1.heap.size:=by
  rcases Nat.lt_or_ge b w1.heap.size with h'|h'
  ·exact h'
  ·simp[Array.getElem?_eq_none h']at hbk
 have hb2:w2.heap[b]?=some (.cells #[.pointer (some ⟨b,0,none⟩),v] 112 (0,0)):=by
  rw[hgrow.block b hlt (fun e=>hne e.symm)];exact hbk
 have d0:w2.cell? ⟨b,0,none⟩=some (.pointer (some ⟨b,0,none⟩)):=by rw[Lib.cell_of_heap hb2];rfl
 have d1:w2.cell? ⟨b,1,none⟩=some v:=by rw[Lib.cell_of_heap hb2];rfl
 have f1:w2.frozen? ⟨b,1,none⟩=false:=Lib.frozen_of_heap hb2 1;obtain⟨ao,n',cap',rfl⟩:∃ao n' cap,v'=.slice ao n' cap:=by
  rcases hown'.2 with⟨hv,_⟩|⟨g,cap,cur,fz,hv,_⟩
  ·exact⟨_,_,_,hv⟩
  ·exact⟨_,_,_,hv⟩
 go_wp2
 go_ret2;refine⟨rfl,?_,?_,(hk1.grown hgrow (Lib.ownsRowF_kind hown)).setCell ⟨b,1,none⟩ rfl _⟩
 ·exact Lib.BuilderAtF.put (T:=112) (e:=5) hB hb2 (bs':=bs++Lib.byteCells L) (by simpa [iJ]using hown') (by decide)
 ·exact(hb1.grown hgrow (by have:=hb1.size;omega) (fun k hk=>(hown.lt k hk).1)).setCell (p:=⟨b,1,none⟩) hB _
end Go.Proofs.YtcfgbdhpcboikaaGreatDoor
