/-
real.numeral: the walk's two ways (with a point, without one).
-/
import Derived.Test.YtcfgbdhpcboikaaGreatDoorNum
import Derived.Test.YtcfgbdhpcboikaaGreatDoorOwnV
namespace Go.Proofs.YtcfgbdhpcboikaaGreatDoor
open Go.Lib (hid)
set_option maxHeartbeats 16000000
set_option maxRecDepth 100000
open Go.RowKit
theorem vQ {n:Nat}:n≤n:=Nat.le_refl n
theorem aDj (s s1 s2:ByteArray)(n:Nat)(v:Bool)(w:World)(h40:s.size≤40)(hz1:s1.size≤40)(hz2:s2.size≤s1.size)
  (TR:∀w,Calls Tryz.prog 117 #[.string s,.string { data:=#[45] }] w fun e w'=>e=.returned (.string s1)∧w=w')
  (D1:∀w,Calls Tryz.prog 112 #[.string s1] w fun e w'=>e=.returned (.int .i64 n)∧w=w')
  (c2:∀w,(Instr.slice 9 (.string s1) (some (.int .i64 n)) none none).run Tryz.prog w=.ok (.string s2) w)
  (DOT:∀w,Calls Tryz.prog 118 #[.string s2,.string { data:=#[46] }] w fun e w'=>e=.returned (.bool false)∧w=w')
  (_hns:n≤s1.size) (hv:tT s2 n v) :
  Calls Tryz.prog 65 #[.string s] w fun e w'=>e=.returned (.bool v)∧w=w':=by
 have HTR:=hid TR;have HD1:=hid D1;have HDOT:=hid DOT;clear TR D1 DOT;cases hv
 case' zero h=>have h':(((n:Int))==0)=true:=by simp;omega
 case' done h h1=>have e1:=gU s2 h1;clear h1
 case' other h h1 h2 h3=>have e1:=cV s2 h1
 case' small h h1 h2 s4 z4 c4 hv=>have e1:=cV s2 h1
 case' large h h1 h2 h3 s4 z4 c4 hv=>have e1:=cV s2 h1
 all_goals try have h':(((n:Int))==0)=false:=by simp;omega
 all_goals try clear h
 all_goals try rcases hv with h4|⟨h4,g1,g2,d,hd⟩|⟨h4,g1,s5,h5,c5,g0⟩|⟨h4,g1,s5,h5,c5,g0,d,hd⟩|⟨h4,g1,g2,s5,h5,c5,g0⟩|⟨h4,g1,g2,s5,h5,c5,g0,d,hd⟩
 all_goals try have e2:=cV s4 h4
 all_goals try have e2:=gU s4 h4
 all_goals try have e3:=cV s5 g0
 all_goals try have e3:=gU s5 g0
 all_goals try have HD3:=hid (fun w=>gX s4 d w (by unfold maxLen;omega) hd)
 all_goals try have HD3:=hid (fun w=>gX s5 d w (by unfold maxLen;omega) hd)
 all_goals try clear hd
 all_goals
  go_enter Tryz.func65,Tryz.ntmps65
  go_wp2_with (first
   | (go_at_call 117;refine(HTR.out _).mono ?_;rintro e w' ⟨rfl,rfl⟩)
   | (go_at_call 118;refine(HDOT.out _).mono ?_;rintro e w' ⟨rfl,rfl⟩)
   | (go_at_call 112;((with_reducible refine(HD1.out _).mono ?_);rintro e w' ⟨rfl,rfl⟩))
   | (go_at_call 112;((with_reducible refine(HD3.out _).mono ?_);rintro e w' ⟨rfl,rfl⟩)))
  go_ret;exact⟨rfl,rfl⟩
theorem aEn (s s1 s2 s2' s3:ByteArray)(n k:Nat)(v:Bool)(w:World)(h40:s.size≤40)(hz1:s1.size≤40)(_hz2:s2.size≤s1.size)(hz3:s3.size≤s1.size)
  (TR:∀w,Calls Tryz.prog 117 #[.string s,.string { data:=#[45] }] w fun e w'=>e=.returned (.string s1)∧w=w')
  (D1:∀w,Calls Tryz.prog 112 #[.string s1] w fun e w'=>e=.returned (.int .i64 n)∧w=w')
  (c2:∀w,(Instr.slice 9 (.string s1) (some (.int .i64 n)) none none).run Tryz.prog w=.ok (.string s2) w)
  (DOT:∀w,Calls Tryz.prog 118 #[.string s2,.string { data:=#[46] }] w fun e w'=>e=.returned (.bool true)∧w=w')
  (c2':∀w,(Instr.slice 9 (.string s2) (some (.int .i64 1)) none none).run Tryz.prog w=.ok (.string s2') w)
  (D2:∀w,Calls Tryz.prog 112 #[.string s2'] w fun e w'=>e=.returned (.int .i64 k)∧w=w')
  (hk0:((k:Int)==0)=false)
  (c3:∀w,(Instr.slice 9 (.string s2) (some (.int .i64 (1+(k:Int)))) none none).run Tryz.prog w=.ok (.string s3) w)
  (_hns:n≤s1.size) (hks:n+k≤s1.size) (hv:tT s3 (n+k) v) :
  Calls Tryz.prog 65 #[.string s] w fun e w'=>e=.returned (.bool v)∧w=w':=by
 have HTR:=hid TR;have HD1:=hid D1;have HD2:=hid D2;have HDOT:=hid DOT;clear TR D1 DOT D2;cases hv
 case' zero h=>have h':(((n:Int)+(k:Int))==0)=true:=by simp;omega
 case' done h h1=>have e1:=gU s3 h1;clear h1
 case' other h h1 h2 h3=>have e1:=cV s3 h1
 case' small h h1 h2 s4 z4 c4 hv=>have e1:=cV s3 h1
 case' large h h1 h2 h3 s4 z4 c4 hv=>have e1:=cV s3 h1
 all_goals try have h':(((n:Int)+(k:Int))==0)=false:=by simp;omega
 all_goals try clear h
 all_goals try rcases hv with h4|⟨h4,g1,g2,d,hd⟩|⟨h4,g1,s5,h5,c5,g0⟩|⟨h4,g1,s5,h5,c5,g0,d,hd⟩|⟨h4,g1,g2,s5,h5,c5,g0⟩|⟨h4,g1,g2,s5,h5,c5,g0,d,hd⟩
 all_goals try have e2:=cV s4 h4
 all_goals try have e2:=gU s4 h4
 all_goals try have e3:=cV s5 g0
 all_goals try have e3:=gU s5 g0
 all_goals try have HD3:=hid (fun w=>gX s4 d w (by unfold maxLen;omega) hd)
 all_goals try have HD3:=hid (fun w=>gX s5 d w (by unfold maxLen;omega) hd)
 all_goals try clear hd
 all_goals
  go_enter Tryz.func65,Tryz.ntmps65
  go_wp2_with (first
   | (go_at_call 117;refine(HTR.out _).mono ?_;rintro e w' ⟨rfl,rfl⟩)
   | (go_at_call 118;refine(HDOT.out _).mono ?_;rintro e w' ⟨rfl,rfl⟩)
   | (go_at_call 112;((with_reducible refine(HD1.out _).mono ?_);rintro e w' ⟨rfl,rfl⟩))
   | (go_at_call 112;((with_reducible refine(HD2.out _).mono ?_);rintro e w' ⟨rfl,rfl⟩))
   | (go_at_call 112;((with_reducible refine(HD3.out _).mono ?_);rintro e w' ⟨rfl,rfl⟩)))
  go_ret;exact⟨rfl,rfl⟩
theorem aB6 (s s1 s2 s2':ByteArray)(n:Nat)(w:World)(h40:s.size≤40)(_hz1:s1.size≤40)
  (TR:∀w,Calls Tryz.prog 117 #[.string s,.string { data:=#[45] }] w fun e w'=>e=.returned (.string s1)∧w=w')
  (D1:∀w,Calls Tryz.prog 112 #[.string s1] w fun e w'=>e=.returned (.int .i64 n)∧w=w')
  (c2:∀w,(Instr.slice 9 (.string s1) (some (.int .i64 n)) none none).run Tryz.prog w=.ok (.string s2) w)
  (DOT:∀w,Calls Tryz.prog 118 #[.string s2,.string { data:=#[46] }] w fun e w'=>e=.returned (.bool true)∧w=w')
  (c2':∀w,(Instr.slice 9 (.string s2) (some (.int .i64 1)) none none).run Tryz.prog w=.ok (.string s2') w)
  (D2:∀w,Calls Tryz.prog 112 #[.string s2'] w fun e w'=>e=.returned (.int .i64 (0:Nat))∧w=w') :
  Calls Tryz.prog 65 #[.string s] w fun e w'=>e=.returned (.bool false)∧w=w':=by
 have HTR:=hid TR;have HD1:=hid D1;have HD2:=hid D2;have HDOT:=hid DOT;clear TR D1 DOT D2;go_enter Tryz.func65,Tryz.ntmps65
 go_wp2_with (first
  | (go_at_call 117;refine(HTR.out _).mono ?_;rintro e w' ⟨rfl,rfl⟩)
  | (go_at_call 118;refine(HDOT.out _).mono ?_;rintro e w' ⟨rfl,rfl⟩)
  | (go_at_call 112;((with_reducible refine(HD1.out _).mono ?_);rintro e w' ⟨rfl,rfl⟩))
  | (go_at_call 112;((with_reducible refine(HD2.out _).mono ?_);rintro e w' ⟨rfl,rfl⟩)))
 go_ret;exact⟨rfl,rfl⟩
theorem nB (s:ByteArray)(w:World)(hs:s.size≤maxLen) :
  Calls Tryz.prog 65 #[.string s] w fun e w'=>e=.returned (.bool (bR s.data.toList))∧w=w':=by
 by_cases h40:40<s.size
 ·exact aDk s w hs h40
 ·obtain⟨s1,hs1⟩:∃s1:ByteArray,s1.data.toList=if s.data.toList.head?=some 45 then s.data.toList.drop 1 else s.data.toList:=⟨⟨(if s.data.toList.head?=some 45 then s.data.toList.drop 1 else s.data.toList).toArray⟩,rfl⟩
  have hz1:s1.size≤40:=by
   rw[aP,hs1];rw[aP]at h40
   split
   ·rw[List.length_drop];omega
   ·omega
  have hv:bR s.data.toList=pE s1.data.toList:=by
   unfold bR;rw[if_neg (by rw[←aP];omega),hs1]
  rw[hv];have TR:=fun w=>aMA s s1 w hs1
  obtain⟨n,hn⟩:∃n,n=digs s1.data.toList:=⟨_,rfl⟩
  have hns:n≤s1.size:=by rw[hn,aP];exact gT _
  have D1:=fun w=>gX s1 n w (by unfold maxLen;omega) hn.symm
  obtain⟨s2,h2,hz2,c2⟩:=eR s1 n hns;by_cases hd:s2.data.toList.head?=some 46
  ·obtain⟨l2,_⟩:=uF s2 46 hd;have DOT:=fun w=>aHc s2 true w (by simp[hd])
   obtain⟨s2',h2',hz2',c2'⟩:=eR s2 1 l2;obtain⟨k,hk⟩:∃k,k=digs s2'.data.toList:=⟨_,rfl⟩
   have hks:k≤s2'.size:=by rw[hk,aP];exact gT _
   have D2:=fun w=>gX s2' k w (by unfold maxLen;omega) hk.symm
   obtain⟨s3,h3,hz3,c3⟩:=eR s2 (1+k) (by omega);have hv:pE s1.data.toList=if k=0 then false else iF (n+k) s3.data.toList:=by
    unfold pE;rw[←hn,←h2,if_pos hd,←h2',←hk,←h3]
   rw[hv];by_cases hk0:k=0
   ·rw[if_pos hk0];rw[hk0]at D2
    exact aB6 s s1 s2 s2' n w (by omega) hz1 TR D1 c2 DOT c2' D2
   ·rw[if_neg hk0];have e:((1+k:Nat):Int)=1+(k:Int):=by omega
    rw[e]at c3
    exact aEn s s1 s2 s2' s3 n k _ w (by omega) hz1 (by omega) (by omega) TR D1 c2 DOT c2' D2 (by simp;omega) c3 hns (by omega) (aAj s3 (n+k) (by omega) (by omega))
  ·have DOT:=fun w=>aHc s2 false w (by simp[hd])
   have hv:pE s1.data.toList=iF n s2.data.toList:=by
    unfold pE;rw[←hn,←h2,if_neg hd]
   rw[hv];exact aDj s s1 s2 n _ w (by omega) hz1 (by omega) TR D1 c2 DOT hns (aAj s2 n (by omega) (by omega))
open Go.RowKit
def aG (i:Nat):Nat:=(Pinned.pow10Rows.getD i (0,0)).1
def aO (i:Nat):Nat:=(Pinned.pow10Rows.getD i (0,0)).2
def fD:List Nat:=[4607182418800017408,4621819117588971520,4636737291354636288,4652007308841189376,4666723172467343360,4681608360884174848,4696837146684686336,4711630319722168320,4726483295884279808,4741671816366391296,4756540486875873280,4771362005757984768,4786511204640096256,4801453603149578240,4816244402031689728,4831355200913801216,4846369599423283200,4861130398305394688,4876203697187506176,4891288408196988160,4906019910204099648,4921056587992461136,4936209963552724370]
def aAp:List Int:=[1,3,6,9,13,16,19,23,26]
structure aA (w:World):Prop where
 opt:w.cell? ⟨7,0,none⟩=some (.bool true)
 most:∃m,w.cell? ⟨1,0,none⟩=some (.int .i64 m)
 syn:∃t v,w.cell? ⟨2,0,none⟩=some (.iface t v)
 rng:∃t v,w.cell? ⟨3,0,none⟩=some (.iface t v)
 info0:w.cell? ⟨8,0,none⟩=some (.int .u64 52)
 info1:w.cell? ⟨8,1,none⟩=some (.int .u64 11)
 info2:w.cell? ⟨8,2,none⟩=some (.int .i64 (-1023))
 f10:∃b o,w.cell? ⟨12,0,none⟩=some (.slice (some ⟨b,o,none⟩) 23 23)∧∀i,i<23→w.cell? ⟨b,o+i,none⟩=some (.float .f64 (fD.getD i 0))
 p2:∃b o,w.cell? ⟨11,0,none⟩=some (.slice (some ⟨b,o,none⟩) 9 9)∧∀i,i<9→w.cell? ⟨b,o+i,none⟩=some (.int .i64 (aAp.getD i 0))
 p10:∀i,i<696→w.cell? ⟨13,2*i,none⟩=some (.int .u64 (aG i))∧w.cell? ⟨13,2*i+1,none⟩=some (.int .u64 (aO i))
 cheats:∃b o,w.cell? ⟨14,0,none⟩=some (.slice (some ⟨b,o,none⟩) 61 61)∧∀i,i<61→w.cell? ⟨b,o+2*i,none⟩=some (.int .i64 (Pinned.cheatRows.getD i (0,[])).1)∧w.cell? ⟨b,o+(2*i+1),none⟩=some (.string ⟨(Pinned.cheatRows.getD i (0,[])).2.toArray⟩)
 u10:Lib.TabIs Tryz.prog w "internal/strconv.uint64pow10" .u64 Lib.pow10Tab
 u8:Lib.Utf8Tabs 4 5 w
theorem aA.keep {w w':World}(h:aA w)(hc:∀a v,w.cell? a=some v→w'.cell? a=some v)(h8:Lib.Utf8Tabs 4 5 w')(hv:∀cs,w.var? Tryz.prog "internal/strconv.uint64pow10" = some cs→w'.var? Tryz.prog "internal/strconv.uint64pow10" = some cs):aA w':=by
 obtain⟨m,hm⟩:=h.most;obtain⟨t1,v1,h1⟩:=h.syn;obtain⟨t2,v2,h2⟩:=h.rng;obtain⟨b,o,h3,h3'⟩:=h.f10;obtain⟨b4,o4,h4,h4'⟩:=h.p2;obtain⟨b5,o5,h5,h5'⟩:=h.cheats;exact⟨hc _ _ h.opt,⟨m,hc _ _ hm⟩,⟨t1,v1,hc _ _ h1⟩,⟨t2,v2,hc _ _ h2⟩,hc _ _ h.info0,hc _ _ h.info1,hc _ _ h.info2,
  ⟨b,o,hc _ _ h3,fun i hi=>hc _ _ (h3' i hi)⟩,⟨b4,o4,hc _ _ h4,fun i hi=>hc _ _ (h4' i hi)⟩,fun i hi=>⟨hc _ _ (h.p10 i hi).1,hc _ _ (h.p10 i hi).2⟩,
  ⟨b5,o5,hc _ _ h5,fun i hi=>⟨hc _ _ (h5' i hi).1,hc _ _ (h5' i hi).2⟩⟩,hv _ h.u10,h8⟩
theorem aFR:Tryz.prog.globalNamed "internal/strconv.uint64pow10" = some 9:=by kernel_rfl
theorem aA.below {B:Nat}{w w':World}(h:aA w)(hb:Below B w w')(hB:w.heap.size≤B):aA w':=by
 have hc:∀a v,w.cell? a=some v→w'.cell? a=some v:=fun a v hv=>by
  have:=World.block_lt_of_cell? w _ hv;rw[hb.cell (by omega),hv]
 refine h.keep hc (Utf8Tabs_below h.u8 ⟨hb.os,hb.tape,hb.output,hb.size,fun k hk=>hb.block k (Nat.lt_of_lt_of_le hk hB)⟩) ?_;intro cs hv;have h7:9<w.heap.size:=by
  obtain⟨b,o,h5,_⟩:=h.cheats;have:=World.block_lt_of_cell? w _ h5;simp at this;omega
 unfold World.var? at hv ⊢;simp only[aFR,Option.bind_some]at hv ⊢;rw[hb.block 9 (by omega)];exact hv
theorem aA.drewN {w:World}(h:aA w)(n:Nat):aA (w.drewN n):=h.below (B:=w.heap.size) ⟨rfl,rfl,rfl,Nat.le_refl _,fun _ _=>rfl⟩ vQ
theorem aA.size {w:World}(h:aA w):15≤w.heap.size:=by
 obtain⟨b,o,h5,_⟩:=h.cheats;have:=World.block_lt_of_cell? w _ h5;simp at this;omega
open Go.RowKit
theorem oC (s:ByteArray)(w:World):∃cap W,(convert 9 35 (.string s)).run Tryz.prog w=.ok (.slice (some ⟨w.heap.size,0,none⟩) s.size cap) W∧Below w.heap.size w W∧bK W w.heap.size 0 s.data.toList∧s.size≤cap∧w.heap.size<W.heap.size:=by
 refine⟨_,_,Lib.run_convert_string_bytes w 9 35 5 s Tryz.underlying9 Tryz.underlying35 Tryz.underlying5,?_,?_,grownCap_ge w s.size 0 5,?_⟩
 ·refine⟨?_,?_,?_,by rw[Lib.bytesWorld_size];omega,fun k hk=>Lib.bytesWorld_at_old w 5 s k hk⟩;all_goals
   unfold Lib.bytesWorld World.freeze;split<;>rfl
 ·intro j hj;have hj':j<s.size:=hj;rw[Nat.zero_add,Lib.bytesWorld_cell w 5 s j hj'];simp[List.getD_eq_getElem?_getD,List.getElem?_eq_getElem hj]
 ·rw[Lib.bytesWorld_size];omega
theorem aMd {a b:Int}(h:a=b):Ending.returned (.int .i32 a)=.returned (.int .i32 b):=by rw[h]
theorem aIH (x:Nat)(w:World)(_hx:x≤1114111)(v:Int)(hv:Hid (iT x=v)):Calls Tryz.prog 76 #[.int .i32 x] w fun e w'=>e=.returned (.int .i32 v)∧w=w':=by
 go_enter Tryz.func76,Tryz.ntmps76
 go_wp2
 all_goals
  go_ret;refine⟨?_,rfl⟩;apply aMd;rw[←hv.out];unfold iT;first
   | (rw[if_pos (by omega)];done)
   | (rw[if_neg (by omega)];done)
   | (rw[if_neg (by omega)];omega)
theorem aEC (w:World):MapGrows Tryz.prog 76 #[] iT w:=by
 intro W x hx _;have:=aIH x W hx _ (hid rfl);exact this.mono fun e w' ⟨he,hw⟩=>⟨he,hw▸Below.refl _ _⟩
theorem yN (s:ByteArray)(hs:s.size≤1000000000)(w:World)(T:aA w):Calls Tryz.prog 32 #[.string s] w fun e w'=>e=.returned (.string ⟨(bT s.data.toList).toArray⟩)∧Below w.heap.size w w':=by
 have HT:=hid T;clear T;obtain⟨cap,W,hrun,hb,hby,hcap,hsz⟩:=oC s w;have HB:=hid hb;have HY:Hid (bK W w.heap.size 0 s.data.toList):=hby;have HC:=hid (show s.data.toList.length≤cap from hcap);have HS:=hid (show w.heap.size<W.heap.size from hsz);clear hb hby hcap hsz;go_enter Tryz.func32,Tryz.ntmps32
 go_wp2_with fail
 refine(aFF w.heap.size 0 cap s.data.toList (show s.size≤1000000000 from hs) HC.out W HY HS.out).mono ?_;rintro e W2 ⟨rfl,B2⟩;have HB2:=hid (HB.out.trans (B2.mono HB.out.size));have HT2:=hid (HT.out.below HB2.out vQ);clear B2;have hlen:((⟨(jZ s.data.toList).toArray⟩:ByteArray)).size<35184372088832:=by
  have h1:=aAX s.data.toList.length s.data.toList vQ;have h2:s.data.toList.length=s.size:=rfl;have h3:((⟨(jZ s.data.toList).toArray⟩:ByteArray)).size=(jZ s.data.toList).length:=rfl;omega
 have HL:=hid hlen;clear hlen;go_wp2_with fail
 refine(Tryz.strings_Map_grows 76 #[] (fun _ _=>by kernel_rfl) iT _ W2 HL.out (aEC W2) aED HT2.out.u8).mono ?_;rintro e W3 ⟨rfl,B3⟩;have HB3:=hid (HB2.out.trans (B3.mono HB2.out.size));clear B3;go_wp2
 go_ret;refine⟨?_,HB3.out⟩;have:Lib.mapD iT (⟨(jZ s.data.toList).toArray⟩:ByteArray).data.toList=bT s.data.toList:=aLM s.data.toList;rw[←this];rfl
open Go.RowKit PU8
structure kI (rs:List Nat) (k:Nat) (ks:List Nat):Prop where
 le:k≤rs.length
 len:ks.length≤k
 out:ks=(rs.take k).filter dU
theorem kI.start (rs:List Nat):kI rs 0 []:=⟨Nat.zero_le _,Nat.le_refl _,rfl⟩
theorem kI.yes {rs:List Nat}{k:Nat}{ks:List Nat}(h:kI rs k ks)(hk:k<rs.length)(hr:dU rs[k]=true):kI rs (k+1) (ks++[rs[k]]):=by
 refine⟨hk,?_,?_⟩
 ·have:=h.len;simp;omega
 ·rw[List.take_succ_eq_append_getElem hk,List.filter_append,←h.out];simp[hr]
theorem kI.no {rs:List Nat}{k:Nat}{ks:List Nat}(h:kI rs k ks)(hk:k<rs.length)(hr:dU rs[k]=false):kI rs (k+1) ks:=by
 refine⟨hk,?_,?_⟩
 ·have:=h.len;omega
 ·rw[List.take_succ_eq_append_getElem hk,List.filter_append,←h.out];simp[hr]
theorem aIr (L:List UInt8):(dY L).length≤L.length:=by
 have h:∀(n:Nat) (l:List UInt8),l.length≤n→(dY l).length≤l.length:=by
  intro n;induction n with
  | zero=>intro l hl;rw[List.eq_nil_of_length_eq_zero (by omega:l.length=0)];exact Nat.le_refl _
  | succ n ih =>
   intro l hl;by_cases hne:l=[]
   ·subst hne;exact Nat.le_refl _
   ·rw[mH l hne,List.length_cons];have h1:=nQ l hne;have h2:=ih (l.drop (pieceU (aF l)).1) (by rw[List.length_drop];omega);rw[List.length_drop]at h2
    have:1≤l.length:=by rcases l with _|⟨_,_⟩;exact absurd rfl hne;simp
    omega
 exact h L.length L vQ
theorem aBJ (s:ByteArray)(hs:s.size≤1000000000)(w:World):Calls Tryz.prog 33 #[.string s] w fun e w'=>e=.returned (.string ⟨(bT s.data.toList).toArray⟩)∧Below w.heap.size w w':=by
 obtain⟨i0,hi,hz0,hz1,hz2⟩:=info_parts Tryz.info21;obtain⟨cap,W,hrun,hb,hby,hcap,hsz⟩:=oC s w;have hsl:s.data.toList.length=s.size:=rfl;have hrl:=aIr s.data.toList;have hrv:=qC s.data.toList.length s.data.toList vQ;have C:=aGe w.heap.size 0 cap s.data.toList W (hid hby) hsz (by omega);rw[hsl]at C hrl
 have hT:bT s.data.toList=((dY s.data.toList).filter dU).flatMap aQ:=rfl;unfold aBp at C;rw[hT];generalize dY s.data.toList=rs at C hrl hrv;have HB:=hid hb;have HC:=hid C;have HV:=hid hrv;clear hb hby hcap hsz C hrv hsl hT;go_enter Tryz.func33,Tryz.ntmps33
 go_wp2_with fail
 refine HC.out.mono ?_;rintro e W1 ⟨v,rfl,hO1⟩;have HB1:=hid (HB.out.trans (hO1.bel.mono HB.out.size));have HV1:=hid hO1.vec;clear hO1;obtain⟨a,c,rfl,_⟩:=HV1.out;go_wp2
 go_loopw [4,5] (fun o i wx=>∃(k:Nat) (ks:List Nat),i=.int .i64 k∧Hid (kI rs k ks)∧Hid (aM W1.heap.size 21 1 o ks.length (ks.map mG) W1 wx)) (fun _ i _=>rs.length-(intOf i).toNat)
 case atStart=>exact⟨0,[],rfl,hid (kI.start rs),hid (aM.nil W1 21 1)⟩
 case round =>
  obtain⟨k,ks,rfl,hK,hO⟩:=hrel;have hk:=hK.out.le;have hkl:=hK.out.len;rcases Nat.lt_or_ge k rs.length with hlt|hge
  ·obtain⟨g,off,c',hva,hcell⟩:=(HV1.out.below hO.out.bel vQ).get k (by simpa using hlt);simp only[Value.slice.injEq,true_and]at hva;obtain⟨rfl,rfl⟩:=hva;rw[List.getElem_map]at hcell
   have hle:=(HV.out rs[k] (List.getElem_mem hlt)).2;have HY:=hid (hK.out.yes hlt);have HN:=hid (hK.out.no hlt);generalize rs[k]=r at *
   unfold mG at hcell;have hcases:r<9∨r=9∨r=10∨(10<r∧r<32)∨(32≤r∧r<127)∨(127≤r∧r≤159)∨159<r:=by omega
   rcases hcases with h|rfl|rfl|⟨h,h2⟩|⟨h,h2⟩|⟨h,h2⟩|h
   ·have HF:=hid (HN.out (by unfold dU;simp;omega));have t1:((r:Int)==9)=false:=by rw[beq_eq_false_iff_ne];omega
    have t2:((r:Int)==10)=false:=by rw[beq_eq_false_iff_ne];omega
    go_wp2
    go_roundw
    case rel=>exact⟨k+1,ks,by go_num,HF,hO⟩
    case measure=>simp[intOf];omega
   ·have HF:=hid (HY.out rfl);go_wp2_with (at_builtin;refine bC (by rfl) _ _ 85 (by rfl) 21 i0 (.int .i32 0) 1 4 Tryz.underlying85 hi hz0 hz1 hz2 rfl (by decide) _ _ _ rfl hO.out #[.int .i32 (9:Nat)] rfl rfl rfl rfl (by omega) (by omega) ?_)
    intro v' w' hO' _;go_wp2
    go_roundw
    case rel=>exact⟨k+1,ks++[9],by go_num,HF,hid (hO'.out.cast (by simp) (by simp[mG]))⟩
    case measure=>simp[intOf];omega
   ·have HF:=hid (HY.out rfl);go_wp2_with (at_builtin;refine bC (by rfl) _ _ 85 (by rfl) 21 i0 (.int .i32 0) 1 4 Tryz.underlying85 hi hz0 hz1 hz2 rfl (by decide) _ _ _ rfl hO.out #[.int .i32 (10:Nat)] rfl rfl rfl rfl (by omega) (by omega) ?_)
    intro v' w' hO' _;go_wp2
    go_roundw
    case rel=>exact⟨k+1,ks++[10],by go_num,HF,hid (hO'.out.cast (by simp) (by simp[mG]))⟩
    case measure=>simp[intOf];omega
   ·have HF:=hid (HN.out (by unfold dU;simp;omega));have t1:((r:Int)==9)=false:=by rw[beq_eq_false_iff_ne];omega
    have t2:((r:Int)==10)=false:=by rw[beq_eq_false_iff_ne];omega
    go_wp2
    go_roundw
    case rel=>exact⟨k+1,ks,by go_num,HF,hO⟩
    case measure=>simp[intOf];omega
   ·have HF:=hid (HY.out (by unfold dU;simp;omega));have t1:((r:Int)==9)=false:=by rw[beq_eq_false_iff_ne];omega
    have t2:((r:Int)==10)=false:=by rw[beq_eq_false_iff_ne];omega
    go_wp2_with (at_builtin;refine bC (by rfl) _ _ 85 (by rfl) 21 i0 (.int .i32 0) 1 4 Tryz.underlying85 hi hz0 hz1 hz2 rfl (by decide) _ _ _ rfl hO.out #[.int .i32 r] rfl rfl rfl rfl (by omega) (by omega) ?_)
    intro v' w' hO' _;go_wp2
    go_roundw
    case rel=>exact⟨k+1,ks++[r],by go_num,HF,hid (hO'.out.cast (by simp) (by simp[mG]))⟩
    case measure=>simp[intOf];omega
   ·have HF:=hid (HN.out (by unfold dU;simp;omega));have t1:((r:Int)==9)=false:=by rw[beq_eq_false_iff_ne];omega
    have t2:((r:Int)==10)=false:=by rw[beq_eq_false_iff_ne];omega
    go_wp2
    go_roundw
    case rel=>exact⟨k+1,ks,by go_num,HF,hO⟩
    case measure=>simp[intOf];omega
   ·have HF:=hid (HY.out (by unfold dU;simp;omega));have t1:((r:Int)==9)=false:=by rw[beq_eq_false_iff_ne];omega
    have t2:((r:Int)==10)=false:=by rw[beq_eq_false_iff_ne];omega
    go_wp2_with (at_builtin;refine bC (by rfl) _ _ 85 (by rfl) 21 i0 (.int .i32 0) 1 4 Tryz.underlying85 hi hz0 hz1 hz2 rfl (by decide) _ _ _ rfl hO.out #[.int .i32 r] rfl rfl rfl rfl (by omega) (by omega) ?_)
    intro v' w' hO' _;go_wp2
    go_roundw
    case rel=>exact⟨k+1,ks++[r],by go_num,HF,hid (hO'.out.cast (by simp) (by simp[mG]))⟩
    case measure=>simp[intOf];omega
  ·have hX:ks=rs.filter dU:=by
    have:=hK.out.out;rw[show k=rs.length by omega,List.take_length]at this
    exact this
   have hkv:∀r∈ks,Val r:=fun r hr=>by rw[hX]at hr;exact HV.out r (List.mem_filter.1 hr).1
   have HX:=hid hX;have HKV:=hid hkv;have HW:=hid hO.out.vec;have HB2:=hid (HB1.out.trans (hO.out.bel.mono HB1.out.size));clear hX hkv;go_wp2_with fail
   refine(aEs ks HKV (by omega) _ wr HW).mono ?_;rintro e W2 ⟨rfl,B2⟩;have HB3:=hid (HB2.out.trans (B2.mono HB2.out.size));clear B2;go_wp2
   go_ret;refine⟨?_,HB3.out⟩;rw[HX.out];rfl
end Go.Proofs.YtcfgbdhpcboikaaGreatDoor
