/-
PolicyValues: the walk.
-/
import Derived.Test.YtcfgbdhpcboikaaGreatDoorRefAT
import Derived.Test.YtcfgbdhpcboikaaGreatDoorHoldF
import Derived.Test.YtcfgbdhpcboikaaGreatDoorRefVL
import Derived.Test.YtcfgbdhpcboikaaGreatDoorRPrint
import Derived.Test.YtcfgbdhpcboikaaGreatDoorLaidA
namespace Go.Proofs.YtcfgbdhpcboikaaGreatDoor
open Go.Lib (hid)
set_option maxHeartbeats 8000000
set_option maxRecDepth 100000
open Go.RowKit
theorem kS {n:Nat}:n≤n:=Nat.le_refl n
theorem aG5 (w:World)(a:Option Addr)(n c h:Nat)(h1:h≤c):(Instr.slice 33 (.slice a n c) none (some (.int .i64 h)) none).run Tryz.prog w=.ok (.slice a h c) w:=by
 obtain⟨i,hi,_⟩:=info_parts Tryz.info39;simp[Instr.slice,run_underlying Tryz.underlying33,Instr.sliceBounds,run_sliceBound,sizeOf,typeInfo,hi,h1,Addr.add]
theorem aM.front {B:Nat}{g n c:Nat}{l:List AT}{r:List Value}{W0 w:World}(h:aM B 39 2 (.slice (some ⟨g,0,none⟩) n c) n (bD l++r) W0 w):dL w (.slice (some ⟨g,0,none⟩) l.length c) l:=by
 refine⟨_,_,rfl,fun j hj=>?_⟩;obtain⟨h1,h2⟩:=pD l j hj;have hlen:=cS l;exact⟨g,0,rfl,by rw[Nat.zero_add];exact h.cell _ _ (by rw[List.getElem?_append_left (by omega)];exact h1),by rw[Nat.zero_add];exact h.cell _ _ (by rw[List.getElem?_append_left (by omega)];exact h2)⟩
theorem aHt (l:List AT)(w:World)(a:Option Addr)(c:Nat)(h:dL w (.slice a l.length c) l):∀j u,(bD l)[j]?=some u→∃g off,a=some ⟨g,off,none⟩∧w.cell? ⟨g,off+j,none⟩=some u:=by
 intro j u hj;have hlt:j<l.length*2:=by rw[←cS];exact(List.getElem?_eq_some_iff.1 hj).1
 obtain⟨a',c',e,hc⟩:=h;simp only[Value.slice.injEq,true_and]at e;obtain⟨rfl,rfl⟩:=e;have hq:j / 2<l.length:=by omega
 obtain⟨g,off,ha,h1,h2⟩:=hc (j / 2) hq;obtain⟨e1,e2⟩:=pD l (j / 2) hq;refine⟨g,off,ha,?_⟩;rcases Nat.mod_two_eq_zero_or_one j with hm|hm
 ·have:j / 2*2=j:=by omega
  rw[this]at e1 h1
  rw[hj]at e1
  cases e1;exact h1
 ·have:j / 2*2+1=j:=by omega
  rw[this]at e2
  rw[Nat.add_assoc,this]at h2
  rw[hj]at e2
  cases e2;exact h2
theorem aHu (l:List AT):(bD l).all (fun u=>u.oneCell')=true:=by
 rw[List.all_eq_true];intro u hu;unfold bD at hu;obtain⟨x,_,hx⟩:=List.mem_flatMap.1 hu;simp only[iE,List.mem_cons,List.mem_nil_iff,or_false]at hx;rcases hx with rfl|rfl<;>rfl
def aEK (f:FuncId)(e:ByteArray)(V:ByteArray→ByteArray→Option ByteArray)(l:List AT):Prop:=∀W av,aA W→dL W av l→Calls Tryz.prog f #[.string e,av] W (tQ V l W)
theorem aEJ (e n s:ByteArray)(V:ByteArray→ByteArray→Option ByteArray)(l:List AT)(la:Option Addr)(lc:Nat)(hll:l.length≤1048576)(w:World)(HT:Hid (aA w))(HS:Hid (Calls Tryz.prog 23 #[] w (cI true w)))
  (o:Option ByteArray) (V1:Hid (∀W,aA W→Calls Tryz.prog 37 #[.string e,.string n,.string s] W fun e w'=>e=.returned (fU o)∧Below W.heap.size W w'))
  (V2:Hid (∀W,aA W→Calls Tryz.prog 44 #[.string e,.string n,.string s] W fun e w'=>e=.returned (fU o)∧Below W.heap.size W w'))
  (A1:Hid (aEK 38 e V l)) (A2:Hid (aEK 45 e V l)) (hA:Hid (dL w (.slice la l.length lc) l)):Calls Tryz.prog 10 #[.string e,.string n,.string s,.slice la l.length lc] w (cI true w):=by
 obtain⟨i39,hi39,hz39,hs39,hb39⟩:=info_parts Tryz.info39;go_enter Tryz.func10,Tryz.ntmps10
 go_wp2_with fail
 refine HS.out.mono ?_;unfold cI;rintro x W1 ⟨rfl,B1⟩;have HB1:=hid B1;have HT1:=hid (HT.out.below HB1.out kS);clear B1;go_wp2_with fail
 refine(V1.out _ HT1.out).mono ?_;rintro x W2 ⟨rfl,B2⟩;have HB2:=hid (HB1.out.trans (B2.mono HB1.out.size));have HT2:=hid (HT.out.below HB2.out kS);clear B2;obtain⟨t,b,hob⟩:∃t b,fU o=.tuple #[.string t,.bool b]:=by cases o<;>exact⟨_,_,rfl⟩
 rw[hob]at V2 ⊢
 clear hob V1;go_wp2_with fail
 refine(V2.out _ HT2.out).mono ?_;rintro x W3 ⟨rfl,B3⟩;have HB3:=hid (HB2.out.trans (B3.mono HB2.out.size));have HT3:=hid (HT.out.below HB3.out kS);clear B3;have e5:(t.toList==t.toList)=true:=by simp
 have e6:(t.toList !=t.toList)=false:=by simp
 have e7:(b==b)=true:=by simp
 have e8:(b !=b)=false:=by simp
 have HA3:=hid (hA.out.below HB3.out kS);have HO3:Hid (aM w.heap.size 39 2 (.slice (some ⟨W3.heap.size,0,none⟩) 0 0) 0 [] w (W3.alloc (.cells #[] 39))):=aM.empty 39 2 HB3.out HB3.out.size;have HA3':=hid (HA3.out.below ((Below.refl W3.heap.size W3).alloc kS (.cells #[] 39)) kS);go_wp2_with (at_builtin;refine wB rfl _ _ 33 rfl 39 i39 (.agg #[.string ⟨#[]⟩,.string ⟨#[]⟩]) 2 32 Tryz.underlying33 hi39 hz39 hs39 hb39 rfl (by decide) _ 0 [] rfl HO3.out la l.length lc (bD l) rfl (cS l) (aHt l _ la lc HA3'.out) (aHu l) (by omega) (by omega) ?_)
 intro v4 W4 hO4 hG4;clear hG4;go_wp2_with (at_builtin;refine bC (by rfl) _ _ 33 (by rfl) 39 i39 (.agg #[.string ⟨#[]⟩,.string ⟨#[]⟩]) 2 32 Tryz.underlying33 hi39 hz39 hs39 hb39 rfl (by decide) _ _ _ rfl hO4.out #[.string ⟨#[33]⟩,.string ⟨#[]⟩] rfl rfl rfl rfl (by omega) (by omega) ?_)
 intro v5 W5 hO5 hG5;clear hG5;have HO5:Hid (aM w.heap.size 39 2 v5 (l.length+1) (bD l++[.string ⟨#[33]⟩,.string ⟨#[]⟩]) w W5):=hO5.out.cast (by omega) (by simp);clear hO4 hO5;obtain⟨g,c,rfl,hwg,hg5,_⟩:=HO5.out.atRow (by omega);have HT5:=hid (HT.out.below HO5.out.bel kS);have HA5:=hid (hA.out.below HO5.out.bel kS);go_wp2_with fail
 refine(A2.out _ _ HT5.out HA5.out).mono ?_;rintro x W6 ⟨wv,r,rfl,hR,hO6⟩;have HR:=hid hR;have HWV:=hid hO6.attrs;have HB6:=hid (HO5.out.bel.trans (hO6.bel.mono HO5.out.bel.size));have HO6:=hid (HO5.out.keep hO6.bel);have hrl:r.length≤1048576:=by
  have h1:=hR.1.length_eq;have h2:=aGV V l [];omega
 clear hR hO6;obtain⟨wa,wc,rfl,_⟩:=HWV.out;have hlc:l.length+1≤c:=by
  obtain⟨a',c',e',h',_⟩:=HO6.out.slice;simp only[Value.slice.injEq,true_and]at e';rw[e'.2];exact h'
 have hcut:∀w,(Instr.slice 33 (.slice (some ⟨g,0,none⟩) (l.length+1) c) none (some (.int .i64 l.length)) none).run Tryz.prog w=.ok (.slice (some ⟨g,0,none⟩) l.length c) w:=fun w=>aG5 w _ _ _ _ (by omega)
 go_wp2_with fail
 go_loopw [16] (fun x wx=>∃k:Nat,x=.int .i64 k∧k≤2∧Hid (Below W6.heap.size W6 wx)) (fun x _=>2-(intOf x).toNat)
 case atStart=>exact⟨0,rfl,by omega,hid (Below.refl _ _)⟩
 case round =>
  obtain⟨k,rfl,hk,hB⟩:=hrel;have HB7:=hid (HB6.out.trans (hB.out.mono HB6.out.size));have HT7:=hid (HT.out.below HB7.out kS);have HO7:=hid (HO6.out.keep hB.out);have HF7:=hid HO7.out.front;rcases Nat.lt_or_ge k 2 with hlt|hge
  ·have h2:decide ((k:Int)<2)=true:=decide_eq_true (by omega);have hcw:=hcut wr;go_wp2_with fail
   refine(A1.out _ _ HT7.out HF7.out).mono ?_;rintro x W8 ⟨ov,r2,rfl,hR2,hO8⟩;obtain rfl:r2=r:=aCA hR2 HR.out;have HO8:=hid hO8;have HV8:=hid hO8.attrs;have HW8:=hid ((HWV.out.below hB.out kS).below hO8.bel kS);clear hR2 hO8;obtain⟨oa,oc,rfl,_⟩:=HV8.out;go_wp2_with fail
   refine(aAB _ _ r2 (by omega) _ HV8 HW8).mono ?_;rintro x W9 ⟨rfl,B9⟩;have HO9:=hid (HO8.out.keep B9);clear B9;go_wp2_with (at_builtin;refine bC (by rfl) _ _ 33 (by rfl) 39 i39 (.agg #[.string ⟨#[]⟩,.string ⟨#[]⟩]) 2 32 Tryz.underlying33 hi39 hz39 hs39 hb39 rfl (by decide) _ _ _ rfl HO9.out #[.string ⟨#[]⟩,.string ⟨#[]⟩] rfl rfl rfl rfl (by omega) (by omega) ?_)
   intro v10 W10 hO10 hG10;clear hG10;have hlen:(bD r2++[Value.string ⟨#[]⟩,.string ⟨#[]⟩]).length=(r2.length+1)*2:=by rw[List.length_append,cS];simp;omega
   obtain⟨xs,hxs⟩:∃xs,xs=bD r2++(#[Value.string ⟨#[]⟩,.string ⟨#[]⟩]:Array Value).toList:=⟨_,rfl⟩
   have HO10:Hid (aM wr.heap.size 39 2 v10 (r2.length+1) xs wr W10):=by rw[hxs];exact hO10.out
   have hxl:xs.length=(r2.length+1)*2:=by rw[hxs];exact hlen
   clear hO10 hxs hlen;obtain⟨g2,c2,rfl,hg2,_,_⟩:=HO10.out.atRow (by omega);obtain⟨wo,hwo⟩:∃wo,wo=wr:=⟨_,rfl⟩
   have HWO:=hid hwo;rw[←hwo]at HO10 hg2
   clear hwo;go_wp2_with fail
   go_loopw [19] (fun x wx=>∃(m:Nat) (ys:List Value),x=.int .i64 m∧m≤r2.length+1∧ys.length=(r2.length+1)*2∧Hid (aM wo.heap.size 39 2 (.slice (some ⟨g2,0,none⟩) (r2.length+1) c2) (r2.length+1) ys wo wx)) (fun x _=>r2.length+1-(intOf x).toNat)
   case atStart=>exact⟨0,xs,rfl,by omega,hxl,HO10⟩
   case round =>
    obtain⟨m,ys,rfl,hm,hyl,hO11⟩:=hrel;rcases Nat.lt_or_ge m (r2.length+1)with hlt2|hge2
    ·have HTH:=hid (hO11.out.there (m*2) 2 (by omega));have HO12:=hid (hO11.out.setCells [.string ⟨#[63]⟩,.string ⟨#[]⟩] _ (m*2) _);clear hO11;go_wp2_with (refine wpList_store_mid (by rfl) 39 (.tmp 85) (.tmp 84) rfl g2 (m*2) #[.string ⟨#[63]⟩,.string ⟨#[]⟩] rfl rfl HTH.out (by rw[hi39];simp[hs39]) (by simp[Value.oneCell']) ?_)
     go_roundw
     case rel=>exact⟨m+1,_,by go_num,by omega,by rw[aIx];exact hyl,HO12⟩
     case measure=>simp[intOf];omega
    ·have HB12:=hid hO11.out.bel;rw[HWO.out]at HB12
     go_wp2_with fail
     go_roundw
     case rel=>exact⟨k+1,by go_num,by omega,hid (hB.out.trans (HB12.out.mono hB.out.size))⟩
     case measure=>simp[intOf];omega
  ·have h2:decide ((k:Int)<2)=false:=decide_eq_false (by omega);have hcw:=hcut wr;have HA7:=hid (hA.out.below HB7.out kS);go_wp2_with fail
   refine(aAB _ _ l (by omega) _ HF7 HA7).mono ?_;rintro x W8 ⟨rfl,B8⟩;have HO8:=hid (HO7.out.keep B8);clear B8;have y1:W8.cell? ⟨g,l.length*2,none⟩=some (.string ⟨#[33]⟩):=HO8.out.cell _ _ (by rw[List.getElem?_append_right (by rw[cS];omega),cS,Nat.sub_self];rfl);go_wp2
   go_ret;exact⟨rfl,HO8.out.bel⟩
open Go.RowKit
def mkB (l:List UInt8):ByteArray:=⟨l.toArray⟩
theorem aNs (a b:List UInt8):mkB a=mkB b↔a=b:=⟨fun h=>by simpa [mkB]using h,fun h=>by rw[h]⟩
theorem aNl (ws:List (List UInt8))(x:List UInt8):Lib.containsS (ws.map mkB) (mkB x)=ws.contains x:=by
 rw[Bool.eq_iff_iff,Lib.containsS_iff,List.contains_iff_mem];simp only[List.mem_map,aNs,exists_eq_right]
theorem aAt (s z:ByteArray)(hs:s.size≤1000000000)(hz:z.size≤1000)(b:Bool)(hb:dI ((vX z.data.toList).map mkB) (aZ s.data.toList)=b)(w:World):Calls Tryz.prog 93 #[.string s,.string z] w (nL (gG s) b w):=by
 have hl:=uJ s.data.toList;have hl2:s.data.toList.length=s.size:=rfl;have hsz:(gG s).size≤140737488355328:=by unfold gG;rw[iD];omega
 have K:=hid (fun w=>aIk s hs w);have S:=fun w=>aEw (gG s) hsz w
 unfold aEN at S;unfold dI at hb;have hd:(gG s).data.toList=aZ s.data.toList:=rfl;have he:(⟨(aZ s.data.toList).toArray⟩:ByteArray)=gG s:=rfl;rw[he]at K
 rw[hd]at S
 clear hl hl2 hsz hd he;generalize gG s=L at *
 generalize aZ s.data.toList=X at *
 cases hsc:eN X with
 | none =>
  rw[hsc]at hb
  rw[fR hsc]at S
  obtain rfl:true=b:=hb;have HS:=hid S;clear S hsc;go_enter Tryz.func93,Tryz.ntmps93
  go_wp2_with fail
  refine(K.out _).mono ?_;rintro x W1 ⟨rfl,B1⟩;have HB1:=hid B1;clear B1;go_wp2_with fail
  refine(HS.out _).mono ?_;rintro x W2 ⟨rfl,B2⟩;have HB2:=hid (HB1.out.trans (B2.mono HB1.out.size));clear B2;go_wp2
  go_ret2;exact⟨rfl,HB2.out⟩
 | some x =>
  rw[hsc]at hb
  rw[jL hsc]at S
  have hb2:inB (mkB x).data.toList z.data.toList=b:=by rw[←hb];exact(aNl _ x).symm
  have HI:=hid (fun w=>lY (mkB x) z b (hid hb2) (by omega) w);have HS:=hid S;have hm:(⟨x.toArray⟩:ByteArray)=mkB x:=rfl;rw[hm]at HS
  clear S hsc hb hb2 hm;generalize mkB x=y at *
  go_enter Tryz.func93,Tryz.ntmps93
  go_wp2_with fail
  refine(K.out _).mono ?_;rintro x W1 ⟨rfl,B1⟩;have HB1:=hid B1;clear B1;go_wp2_with fail
  refine(HS.out _).mono ?_;rintro x W2 ⟨rfl,B2⟩;have HB2:=hid (HB1.out.trans (B2.mono HB1.out.size));clear B2;go_wp2_with fail
  refine(HI.out _).mono ?_;rintro x W3 ⟨rfl,rfl⟩;go_wp2
  go_ret2;exact⟨rfl,HB2.out⟩
theorem zY (n a b:ByteArray)(z:List UInt8)(h:vX z=[a.data.toList,b.data.toList]):inB n.data.toList z=decide (n=a∨n=b):=by
 unfold inB;rw[h,Bool.eq_iff_iff,List.contains_iff_mem,decide_eq_true_eq];simp only[List.mem_cons,List.mem_nil_iff,or_false];exact⟨fun x=>x.imp gE gE,fun x=>x.imp (fun e=>by rw[e]) (fun e=>by rw[e])⟩
theorem aC0 (n a b c:ByteArray)(z:List UInt8)(h:vX z=[a.data.toList,b.data.toList,c.data.toList]):inB n.data.toList z=decide (n=a∨n=b∨n=c):=by
 unfold inB;rw[h,Bool.eq_iff_iff,List.contains_iff_mem,decide_eq_true_eq];simp only[List.mem_cons,List.mem_nil_iff,or_false];exact⟨fun x=>x.imp gE (fun y=>y.imp gE gE),fun x=>x.imp (fun e=>by rw[e]) (fun y=>y.imp (fun e=>by rw[e]) (fun e=>by rw[e]))⟩
theorem iY {n c:ByteArray}(l:List UInt8)(h:c.data.toList=l):(n.toList==l)=decide (n=c):=by
 rw[Bool.eq_iff_iff,beq_iff_eq,decide_eq_true_eq,toList_data,←h];exact⟨gE,fun e=>by rw[e]⟩
theorem aHE {n:List UInt8}{q:Nat}(h:cH n=q)(h0:0<q):(n,q)∈eD:=by
 unfold cH at h;cases hf:eD.find? fun p=>p.1==n with
 | none=>rw[hf]at h;simp at h;omega
 | some p =>
  rw[hf]at h
  have h1:=List.find?_some hf;have h2:=List.mem_of_find?_eq_some hf;have e:p=(n,q):=by
   cases p;simp at h1 h;rw[h1,h]
  rw[←e];exact h2
theorem aLG:∀p∈eD,p.2=13→p.1=sTd.data.toList∨p.1=sTh.data.toList:=by decide +kernel
theorem aHF (e:ByteArray):cH e.data.toList=13↔e=sTd∨e=sTh:=by
 constructor
 ·intro h;exact(aLG _ (aHE h (by omega)) rfl).imp gE gE
 ·rintro(rfl|rfl)<;>decide +kernel
def aN1 (k:FK)(v s:ByteArray)(ok:Bool):Prop:=match k with
 | .text=>Hid (∀W,Calls Tryz.prog 33 #[.string v] W (vH s W))∧ok=true
 | .lang=>v=s∧Hid (ok=true↔kQ v)
 | .dir=>Hid (∀W,Calls Tryz.prog 74 #[.string v] W (vH s W))∧Hid (∀W,Calls Tryz.prog 69 #[.string s,.string ⟨#[97,117,116,111,32,108,116,114,32,114,116,108]⟩] W (oY ok W))
 | .linkA=>Hid (∀W,Calls Tryz.prog 93 #[.string v,.string ⟨#[104,116,116,112,32,104,116,116,112,115,32,109,97,105,108,116,111]⟩] W (nL s ok W))
 | .linkI=>Hid (∀W,Calls Tryz.prog 93 #[.string v,.string ⟨#[104,116,116,112,32,104,116,116,112,115]⟩] W (nL s ok W))
 | .whole lo hi=>v=s∧∃x:Int,Hid (∀W,Calls Tryz.prog 94 #[.string v,.int .i64 lo,.int .i64 hi] W (fun e w'=>e=.returned (.tuple #[.int .i64 x,.bool ok])∧W=w'))
 | .fix=>Hid (∀W,aA W→Calls Tryz.prog 95 #[.string v] W (nL s ok W))
 | .none=>v=s∧ok=false
theorem aKd (w0:World)(T0:aA w0)(k:FK)(v:ByteArray)(hs:v.size≤1048576):∃s ok,nY k v (if ok=true then some s else none)∧aN1 k v s ok∧s.size≤4000000:=by
 have ht:=aAO v;have hl:=aAc v;cases k with
 | text=>exact⟨nI v,true,rfl,⟨hid (fun W=>aBJ v (by omega) W),rfl⟩,by omega⟩
 | lang =>
  by_cases h:kQ v
  ·exact⟨v,true,⟨h,rfl⟩,⟨rfl,hid ⟨fun _=>h,fun _=>rfl⟩⟩,by omega⟩
  ·exact⟨v,false,h,⟨rfl,hid ⟨fun x=>(by cases x),fun x=>absurd x h⟩⟩,by omega⟩
 | dir =>
  have h69:=fun W=>lY (cK v) ⟨#[97,117,116,111,32,108,116,114,32,114,116,108]⟩ (decide (cK v=qD∨cK v=uT∨cK v=uU)) (hid (aC0 _ _ _ _ _ (by decide))) (by decide) W
  have hz:(cK v).size≤4000000:=by
   unfold cK bF;rw[iD,List.length_map];have:v.data.toList.length=v.size:=rfl;omega
  refine⟨cK v,decide (cK v=qD∨cK v=uT∨cK v=uU),?_,⟨hid (fun W=>aAu v (by omega) W),hid h69⟩,hz⟩;by_cases h:cK v=qD∨cK v=uT∨cK v=uU
  ·rw[if_pos (decide_eq_true h)];exact⟨h,rfl⟩
  ·rw[if_neg (by rw[decide_eq_true_eq];exact h)];exact h
 | linkA =>
  have h:=fun W=>aAt v ⟨#[104,116,116,112,32,104,116,116,112,115,32,109,97,105,108,116,111]⟩ (by omega) (by decide) (dI kU (aZ v.data.toList)) rfl W
  refine⟨gG v,dI kU (aZ v.data.toList),?_,hid h,by omega⟩;cases hc:dI kU (aZ v.data.toList)with
  | true=>exact⟨hc,rfl⟩
  | false=>exact hc
 | linkI =>
  have h:=fun W=>aAt v ⟨#[104,116,116,112,32,104,116,116,112,115]⟩ (by omega) (by decide) (dI qZ (aZ v.data.toList)) rfl W
  refine⟨gG v,dI qZ (aZ v.data.toList),?_,hid h,by omega⟩;cases hc:dI qZ (aZ v.data.toList)with
  | true=>exact⟨hc,rfl⟩
  | false=>exact hc
 | whole lo hi =>
  obtain⟨x,b,hx⟩:=aDY v lo hi (by unfold maxLen;omega);refine⟨v,b,?_,⟨rfl,x,hid hx.two⟩,by omega⟩;cases b with
  | true=>exact⟨⟨x,hx⟩,rfl⟩
  | false=>exact⟨x,hx⟩
 | fix =>
  rcases aKc w0 T0 v (by unfold maxLen;omega)with⟨t,h1,h2⟩|⟨h1,h2⟩
  ·exact⟨t,true,h1,hid h2,by have:=h1.sz;omega⟩
  ·exact⟨⟨#[]⟩,false,h1,hid h2,by decide⟩
 | none=>exact⟨v,false,trivial,⟨rfl,rfl⟩,by omega⟩
theorem aHq (e:ByteArray):aT e jJ=.text:=by simp +decide [aT]
theorem aLu (e:ByteArray):aT e uS=if e=dW then .text else .none:=by simp +decide [aT,eK]
theorem aJB (e:ByteArray):aT e nE=.lang:=by simp +decide [aT]
theorem aLv (e:ByteArray):aT e tE=.dir:=by simp +decide [aT]
theorem aJA (e:ByteArray):aT e iQ=if e=sA then .linkA else .none:=by simp +decide [aT,eK]
theorem aLz (e:ByteArray):aT e uV=if e=dW then .linkI else .none:=by simp +decide [aT,eK]
theorem aFM (e:ByteArray):aT e jW=if e=dW then .whole 0 9999 else .none:=by simp +decide [aT,eK]
theorem aHs (e:ByteArray):aT e mJ=if e=dW then .whole 0 9999 else .none:=by simp +decide [aT,eK]
theorem aHp (e:ByteArray):aT e mI=if e=sOl then .whole 0 999999 else .none:=by simp +decide [aT,eK]
theorem aEb (e:ByteArray):aT e fP=if e=sTd∨e=sTh then .whole 1 1000 else .none:=by simp +decide [aT,eK]
theorem aEc (e:ByteArray):aT e fQ=if e=sTd∨e=sTh then .whole 1 1000 else .none:=by simp +decide [aT,eK]
theorem aLx (e:ByteArray):aT e pJ=if e=cU∨e=eI then .fix else .none:=by simp +decide [aT,eK]
theorem aHr (e:ByteArray):aT e jK=if e=cU∨e=eI then .fix else .none:=by simp +decide [aT,eK]
theorem aJz (e:ByteArray):aT e tF=if e=cU then .fix else .none:=by simp +decide [aT,eK]
theorem aLw (e:ByteArray):aT e yF=if e=cU then .fix else .none:=by simp +decide [aT,eK]
theorem aLy (e:ByteArray):aT e yG=if e=cU then .fix else .none:=by simp +decide [aT,eK]
theorem aIs (w0:World)(T0:aA w0)(e n v:ByteArray)(hs:v.size≤1048576)(hn:n.size≤1048576)(_he:e.size≤1048576):∃o,gR e n v o∧∀w,aA w →
  Calls Tryz.prog 44 #[.string e,.string n,.string v] w fun x w'=>x=.returned (fU o)∧Below w.heap.size w w':=by
 by_cases hk:cH e.data.toList<2∨cH e.data.toList=14
 ·refine⟨none,.inl hk,fun w T=>?_⟩;have HK:=hid (fun W=>wO e W);have hd:cH e.data.toList<2∨(¬cH e.data.toList<2∧((cH e.data.toList:Nat):Int)=14):=by omega
  clear hk T;generalize cH e.data.toList=k at *
  rcases hd with h|⟨h,h'⟩
  ·have l1:decide ((k:Int)<2)=true:=decide_eq_true (by omega);go_enter Tryz.func44,Tryz.ntmps44
   go_wp2_with fail
   refine(HK.out _).mono ?_;rintro x W1 ⟨rfl,B1⟩;have HB1:=hid B1;clear B1;go_wp2
   go_ret2;exact⟨rfl,HB1.out⟩
  ·have l1:decide ((k:Int)<2)=false:=decide_eq_false (by omega);have l2:((k:Int)==14)=true:=by rw[beq_iff_eq];exact h'
   clear h h';go_enter Tryz.func44,Tryz.ntmps44
   go_wp2_with fail
   refine(HK.out _).mono ?_;rintro x W1 ⟨rfl,B1⟩;have HB1:=hid B1;clear B1;go_wp2
   go_ret2;exact⟨rfl,HB1.out⟩
 ·obtain⟨s,ok,h1,h2,h3⟩:=aKd w0 T0 (aT e n) v hs;obtain⟨o,ho,hv⟩:∃o,((ok=false∧o=none)∨(ok=true∧120<(fC s).size∧o=none)∨(ok=true∧(fC s).size≤120∧o=some s))∧gR e n v o:=by
   cases ok with
   | false=>exact⟨none,.inl ⟨rfl,rfl⟩,.inr (.inl h1)⟩
   | true =>
    rcases Nat.lt_or_ge 120 (fC s).size with h|h
    ·exact⟨none,.inr (.inl ⟨rfl,h,rfl⟩),.inr (.inr ⟨s,h1,h⟩)⟩
    ·exact⟨some s,.inr (.inr ⟨rfl,h,rfl⟩),hk,h1,h⟩
  refine⟨o,hv,fun w T=>?_⟩;clear hv h1 T0;refine aEx e n v s hs ok o (cH e.data.toList) (by omega) (by rw[beq_eq_false_iff_ne];omega) w (hid T) (hid (fun W=>wO e W))
   (decide (n=jJ)) (decide (n=uS)) (decide (n=nE)) (decide (n=tE)) (decide (n=iQ)) (decide (n=uV)) (decide (n=jW∨n=mJ)) (decide (n=mI)) (decide (n=fP∨n=fQ)) (decide (n=pJ∨n=jK)) (decide (n=tF∨n=yF∨n=yG)) (decide (e=dW)) (decide (e=sA)) (decide (e=sOl)) (decide (e=sTd∨e=sTh)) (decide (e=cU∨e=eI)) (decide (e=cU))
   (iY _ rfl) (iY _ rfl) (iY _ rfl) (iY _ rfl) (iY _ rfl) (iY _ rfl) (hid (fun W=>lY n ⟨#[104,101,105,103,104,116,32,119,105,100,116,104]⟩ _ (hid (zY _ _ _ _ (by decide))) (by decide) W)) (iY _ rfl) (hid (fun W=>lY n ⟨#[99,111,108,115,112,97,110,32,114,111,119,115,112,97,110]⟩ _ (hid (zY _ _ _ _ (by decide))) (by decide) W)) (hid (fun W=>lY n ⟨#[109,97,120,32,118,97,108,117,101]⟩ _ (hid (zY _ _ _ _ (by decide))) (by decide) W)) (hid (fun W=>lY n ⟨#[104,105,103,104,32,108,111,119,32,109,105,110]⟩ _ (hid (aC0 _ _ _ _ _ (by decide))) (by decide) W)) (iY _ rfl) (iY _ rfl) (iY _ rfl) (by rw[Bool.eq_iff_iff,beq_iff_eq,decide_eq_true_eq,←aHF];omega) (hid (fun W=>lY e ⟨#[109,101,116,101,114,32,112,114,111,103,114,101,115,115]⟩ _ (hid (zY _ _ _ _ (by decide))) (by decide) W)) (iY _ rfl)
   (hid (fun _ W=>aKb s (by omega) W)) ho ?_
  clear ho T;simp only[decide_eq_true_eq,decide_eq_false_iff_not];by_cases c0:n=jJ
  ·rw[c0,aHq]at h2
   exact .inl ⟨c0,h2⟩
  by_cases c1:n=uS
  ·have hf:aT e n=if e=dW then .text else .none:=by rw[c1];exact aLu e
   rw[hf]at h2
   by_cases y:e=dW
   ·rw[if_pos y]at h2
    exact .inr (.inl ⟨c0,c1,y,h2⟩)
   ·rw[if_neg y]at h2
    exact .inr (.inr (.inl ⟨c0,c1,y,(by subst c1<;>decide),(by subst c1<;>decide),(by subst c1<;>decide),(by subst c1<;>decide),(by subst c1<;>decide),(by subst c1<;>decide),(by subst c1<;>decide),(by subst c1<;>decide),(by subst c1<;>decide),h2⟩))
  by_cases c2:n=nE
  ·rw[c2,aJB]at h2
   exact .inr (.inr (.inr (.inl ⟨c0,c1,c2,h2⟩)))
  by_cases c3:n=tE
  ·rw[c3,aLv]at h2
   exact .inr (.inr (.inr (.inr (.inl ⟨c0,c1,c2,c3,h2⟩))))
  by_cases c4:n=iQ
  ·have hf:aT e n=if e=sA then .linkA else .none:=by rw[c4];exact aJA e
   rw[hf]at h2
   by_cases y:e=sA
   ·rw[if_pos y]at h2
    exact .inr (.inr (.inr (.inr (.inr (.inl ⟨c0,c1,c2,c3,c4,y,h2⟩)))))
   ·rw[if_neg y]at h2
    exact .inr (.inr (.inr (.inr (.inr (.inr (.inl ⟨c0,c1,c2,c3,c4,y,(by subst c4<;>decide),(by subst c4<;>decide),(by subst c4<;>decide),(by subst c4<;>decide),(by subst c4<;>decide),(by subst c4<;>decide),h2⟩))))))
  by_cases c5:n=uV
  ·have hf:aT e n=if e=dW then .linkI else .none:=by rw[c5];exact aLz e
   rw[hf]at h2
   by_cases y:e=dW
   ·rw[if_pos y]at h2
    exact .inr (.inr (.inr (.inr (.inr (.inr (.inr (.inl ⟨c0,c1,c2,c3,c4,c5,y,h2⟩)))))))
   ·rw[if_neg y]at h2
    exact .inr (.inr (.inr (.inr (.inr (.inr (.inr (.inr (.inl ⟨c0,c1,c2,c3,c4,c5,y,(by subst c5<;>decide),(by subst c5<;>decide),(by subst c5<;>decide),(by subst c5<;>decide),(by subst c5<;>decide),h2⟩))))))))
  by_cases c6:n=jW∨n=mJ
  ·have hf:aT e n=if e=dW then .whole 0 9999 else .none:=by rcases c6 with rfl|rfl<;>first|exact aFM e|exact aHs e
   rw[hf]at h2
   by_cases y:e=dW
   ·rw[if_pos y]at h2
    exact .inr (.inr (.inr (.inr (.inr (.inr (.inr (.inr (.inr (.inl ⟨c0,c1,c2,c3,c4,c5,c6,y,h2⟩)))))))))
   ·rw[if_neg y]at h2
    exact .inr (.inr (.inr (.inr (.inr (.inr (.inr (.inr (.inr (.inr (.inl ⟨c0,c1,c2,c3,c4,c5,c6,y,(by rcases c6 with rfl|rfl<;>decide),(by rcases c6 with rfl|rfl<;>decide),(by rcases c6 with rfl|rfl<;>decide),(by rcases c6 with rfl|rfl<;>decide),h2⟩))))))))))
  by_cases c7:n=mI
  ·have hf:aT e n=if e=sOl then .whole 0 999999 else .none:=by rw[c7];exact aHp e
   rw[hf]at h2
   by_cases y:e=sOl
   ·rw[if_pos y]at h2
    exact .inr (.inr (.inr (.inr (.inr (.inr (.inr (.inr (.inr (.inr (.inr (.inl ⟨c0,c1,c2,c3,c4,c5,c6,c7,y,h2⟩)))))))))))
   ·rw[if_neg y]at h2
    exact .inr (.inr (.inr (.inr (.inr (.inr (.inr (.inr (.inr (.inr (.inr (.inr (.inl ⟨c0,c1,c2,c3,c4,c5,c6,c7,y,(by subst c7<;>decide),(by subst c7<;>decide),(by subst c7<;>decide),h2⟩))))))))))))
  by_cases c8:n=fP∨n=fQ
  ·have hf:aT e n=if e=sTd∨e=sTh then .whole 1 1000 else .none:=by rcases c8 with rfl|rfl<;>first|exact aEb e|exact aEc e
   rw[hf]at h2
   by_cases y:e=sTd∨e=sTh
   ·rw[if_pos y]at h2
    exact .inr (.inr (.inr (.inr (.inr (.inr (.inr (.inr (.inr (.inr (.inr (.inr (.inr (.inl ⟨c0,c1,c2,c3,c4,c5,c6,c7,c8,y,h2⟩)))))))))))))
   ·rw[if_neg y]at h2
    exact .inr (.inr (.inr (.inr (.inr (.inr (.inr (.inr (.inr (.inr (.inr (.inr (.inr (.inr (.inl ⟨c0,c1,c2,c3,c4,c5,c6,c7,c8,y,(by rcases c8 with rfl|rfl<;>decide),(by rcases c8 with rfl|rfl<;>decide),h2⟩))))))))))))))
  by_cases c9:n=pJ∨n=jK
  ·have hf:aT e n=if e=cU∨e=eI then .fix else .none:=by rcases c9 with rfl|rfl<;>first|exact aLx e|exact aHr e
   rw[hf]at h2
   by_cases y:e=cU∨e=eI
   ·rw[if_pos y]at h2
    exact .inr (.inr (.inr (.inr (.inr (.inr (.inr (.inr (.inr (.inr (.inr (.inr (.inr (.inr (.inr (.inl ⟨c0,c1,c2,c3,c4,c5,c6,c7,c8,c9,y,h2⟩)))))))))))))))
   ·rw[if_neg y]at h2
    exact .inr (.inr (.inr (.inr (.inr (.inr (.inr (.inr (.inr (.inr (.inr (.inr (.inr (.inr (.inr (.inr (.inl ⟨c0,c1,c2,c3,c4,c5,c6,c7,c8,c9,y,(by rcases c9 with rfl|rfl<;>decide),h2⟩))))))))))))))))
  by_cases c10:n=tF∨n=yF∨n=yG
  ·have hf:aT e n=if e=cU then .fix else .none:=by rcases c10 with rfl|rfl|rfl<;>first|exact aJz e|exact aLw e|exact aLy e
   rw[hf]at h2
   by_cases y:e=cU
   ·rw[if_pos y]at h2
    exact .inr (.inr (.inr (.inr (.inr (.inr (.inr (.inr (.inr (.inr (.inr (.inr (.inr (.inr (.inr (.inr (.inr (.inl ⟨c0,c1,c2,c3,c4,c5,c6,c7,c8,c9,c10,y,h2⟩)))))))))))))))))
   ·rw[if_neg y]at h2
    exact .inr (.inr (.inr (.inr (.inr (.inr (.inr (.inr (.inr (.inr (.inr (.inr (.inr (.inr (.inr (.inr (.inr (.inr (.inl ⟨c0,c1,c2,c3,c4,c5,c6,c7,c8,c9,c10,y,h2⟩))))))))))))))))))
  have hf:aT e n=.none:=by
   simp only[not_or]at c6 c8 c9 c10;simp[aT,eK,c0,c1,c2,c3,c4,c5,c6,c7,c8,c9,c10]
  rw[hf]at h2
  exact .inr (.inr (.inr (.inr (.inr (.inr (.inr (.inr (.inr (.inr (.inr (.inr (.inr (.inr (.inr (.inr (.inr (.inr (.inr (⟨c0,c1,c2,c3,c4,c5,c6,c7,c8,c9,c10,h2⟩)))))))))))))))))))
theorem aAy (w0:World)(T0:aA w0)(e n v:ByteArray)(o:Option ByteArray)(hs:v.size≤1048576)(hn:n.size≤1048576)(he:e.size≤1048576)(h:gR e n v o)(w:World)(T:aA w) :
  Calls Tryz.prog 44 #[.string e,.string n,.string v] w fun x w'=>x=.returned (fU o)∧Below w.heap.size w w':=by
 obtain⟨o',h1,h2⟩:=aIs w0 T0 e n v hs hn he;obtain rfl:=aBW w0 T0 (by omega) (by omega) hs h1 h;exact h2 w T
open Go.RowKit
def aKQ {H:Type}(enc:TypeId × Value→H)(P:Program)(fn:Func)(s:ChangeSpec)(w:World)(args:Array Value)(fuel:Nat):Bool :=
 match DataW.whole enc P w fn.params.toList s.vars false args.toList fuel with
 | some x=>Rows.uptoSmall H (x.1++x.2.1)
 | none=>false
theorem aHK {H:Type}{enc:TypeId × Value→H}{C:Checked}{os:Os}{f:FuncId}{fn:Func}{s:ChangeSpec}{again:Bool}{X:World→Array Value→Prop}
  (hX:∀(w w':World) (args:Array Value),w.heap=w'.heap→X w args→X w' args)
  (own:ownKnob C.prog.godebug=none) (started:os.Started) (noInit:C.prog.inits.idxOf? f=none) (hfn:C.prog.funcs[f]?=some fn)
  (w0:World) (args0:Array Value) (fuel:Nat) (hos:w0.os=os)
  (hsh:(w0.forCall (fun _ _=>0) ⟨#[],args0,[]⟩).Shaped C.prog)
  (hok:Input.okWideB C.prog (w0.forCall (fun _ _=>0) ⟨#[],args0,[]⟩) f ⟨#[],args0,[]⟩=true)
  (hpre:aKQ enc C.prog fn s (w0.forCall (fun _ _=>0) ⟨#[],args0,[]⟩).memory args0 fuel=true)
  (hsz:s.sizedB enc C.prog fn false (w0.forCall (fun _ _=>0) ⟨#[],args0,[]⟩).memory args0 fuel=true)
  (hx:X (w0.forCall (fun _ _=>0) ⟨#[],args0,[]⟩).memory args0)
  (contract:∀(W:World) (base:Nat) (args:Array Value) (ds gs:List (DataW H)) (before:List MemPlace),
   (∀(j:Nat) t v,fn.params[j]?=some t→args[j]?=some v→Value.okWide C.prog W .any base t v) →
   DataW.Whole enc C.prog fn.params.toList s.vars false W args.toList ds gs before→Rows.uptoBulkAll (ds++gs)≤1048576→X W args→W.ShapedOpen C.prog →
   Calls C.prog f args W fun e W'=>∃v,e=.returned v∧s.post enc C.prog fn false true false again W args v W') (F:Stop.Interp) :
  ReturnsInHanded {} C os f .any (fun w args=>((Rows.OpenSpec.upto s).pre enc C.prog fn [] false w args∧X w args)∧sizedMet enc C.prog fn (Rows.OpenSpec.upto s) false w args) (((Rows.OpenSpec.upto s).at F).post enc C.prog fn false true false again):=by
 refine returnsInHanded_of_calls own started noInit ?_ ?_
 ·refine⟨w0,fun _ _=>0,⟨#[],args0,[]⟩,hos,hsh,(Input.okWide_of_okWideB (base:=0) hok).1,(Input.okWide_of_okWideB hok).2,⟨⟨?_,hx⟩,sizedMet_of_sizedB hsz⟩,?_⟩
  ·unfold aKQ at hpre;split at hpre
   ·rename_i x hw;exact(OpenSpec.pre_some (s:=Rows.OpenSpec.upto s) rfl [] false _ _).2 ⟨x.1,x.2.1,x.2.2,DataW.Whole_of_whole hw,rfl,hpre⟩
   ·cases hpre
  ·simp[Assume.holds]
 ·intro w tape i _ hshape _ hok' hpre' _;obtain⟨_,_,_,fn',hfn',_,_,_,_,hval⟩:=hok';obtain rfl:fn'=fn:=Option.some.inj (hfn'.symm.trans hfn);obtain⟨⟨hp,hx'⟩,_⟩:=hpre';obtain⟨ds,gs,before,hw,_,hkk⟩:=(OpenSpec.pre_some (s:=Rows.OpenSpec.upto s) rfl [] false _ _).1 hp;have hk:Rows.uptoBulkAll (ds++gs)≤1048576:=of_decide_eq_true hkk;have:=contract (w.forCall tape i) _ i.args ds gs before hval (DataW.Whole.of_heap (w':=w.forCall tape i) (by rfl) hw) hk (hX _ _ _ (by rfl) hx') hshape;exact this.mono fun e W' h=>by
   obtain⟨v,he,hp⟩:=h;subst he;exact ChangeSpec.post_blind hp
open Go.ChangeShapes Go.WideShapes Go.ChangeAt Go.RowKit
section
variable {H:Type} {enc:TypeId × Value→H} {P:Program} {w:World} {base:Nat} {spare:Nat→Bool} {held:Bool}
end
def mN:List AT→Nat
 | []=>0
 | x :: l=>1+x.1.size+x.2.size+mN l
mutual
def Nd.bk:Nd→Nat
 | .mk _ _ nm at' tx ks=>2+nm.size+tx.size+mN at'+aKD ks
def aKD:List Nd→Nat
 | []=>0
 | k :: ks=>k.bk+aKD ks
end
theorem qF (s:ByteArray):s.data.toList.length=s.size:=rfl
variable {H:Type} {enc:TypeId × Value→H} {W:World}
theorem aFy (D:Nat→DataW H):∀(m k:Nat),k<m→Rows.uptoBulkAll ((List.range' k (m-k)).map D)=Rows.uptoBulk (D k)+Rows.uptoBulkAll ((List.range' (k+1) (m-(k+1))).map D):=by
 intro m k h;rw[show m-k=(m-(k+1))+1 by omega,List.range'_succ];rfl
theorem aIF {a:Addr}{n:Nat}{cs:List Value}{b:Nat}(h:W.cells? b a n=some cs)(hn:0<n):a.spot=none:=by
 obtain⟨_,hl,h2⟩:=World.cells?_some h;have h3:=h2 0 (by omega);rw[List.getElem?_eq_getElem (by omega)]at h3
 simpa [Addr.add]using World.cell?_spot h3
theorem aI9 {cs:List Value}{y:DataW H × List MemPlace}{n:Nat}(h:DataW.trod enc Tryz.prog W 0 (fun _=>true) true n 33 cs=some y) :
  ∃v l,cs=[v]∧dL W v l∧mN l≤Rows.uptoBulk y.1:=by
 rcases Go.Deep.open_slice Tryz.underlying33 h with⟨rfl,rfl⟩|⟨x,len,cap,m,n',D,Pl,rfl,_,hl,hm,hmm,rfl,hcell⟩
 ·exact⟨_,[],rfl,⟨none,0,rfl,fun j hj=>absurd hj (by simp)⟩,by simp[mN]⟩
 ·simp only[if_true]at hmm;subst hmm;have hc:Tryz.prog.cellsOf 39=2:=by kernel_rfl
  rw[hc]at hcell
  have c9:Tryz.prog.cellsOf 9=1:=by kernel_rfl
  have hspot:0<len→x.spot=none:=fun h0=>by
   obtain⟨cs',h1,_⟩:=hcell 0 (by omega);have:=aIF h1 (by omega);simpa [Addr.add]using this
  have step:∀j,j<len→x.spot=none∧∃q:AT,W.cell? ⟨x.block,x.off+j*2,none⟩=some (.string q.1)∧W.cell? ⟨x.block,x.off+j*2+1,none⟩=some (.string q.2)∧1+q.1.size+q.2.size≤Rows.uptoBulk (D j):=by
   intro j hj;obtain⟨cs',h1,h2⟩:=hcell j (by omega);obtain⟨_,hn,hcc⟩:=World.cells?_some h1;have hsp:x.spot=none:=hspot (by omega);obtain⟨y0,y1,k,hD,_,t0,t1⟩:=trod_struct2 Tryz.underlying39 h2;obtain⟨v0,v1,rfl⟩:∃v0 v1,cs'=[v0,v1]:=by
    match cs',hn with
    | [c0,c1],_=>exact⟨c0,c1,rfl⟩
   rw[c9]at t0 t1
   have t0':DataW.trod enc Tryz.prog W 0 (fun _=>true) true k 9 [v0]=some y0:=t0;have t1':DataW.trod enc Tryz.prog W 0 (fun _=>true) true k 9 [v1]=some y1:=t1;obtain⟨s0,e0,rfl,_⟩:=DataW.trod_string Tryz.underlying9 t0';obtain⟨s1,e1,rfl,_⟩:=DataW.trod_string Tryz.underlying9 t1';simp only[List.cons.injEq,and_true]at e0 e1;subst e0 e1;refine⟨hsp,(s0,s1),?_,?_,?_⟩
   ·have:=hcc 0 (by omega);obtain⟨b,o,s⟩:=x;simp only at hsp;subst hsp;have e:((⟨b,o,none⟩:Addr).add (j*2)).add 0=⟨b,o+j*2,none⟩:=by unfold Addr.add;split<;>simp_all
    rw[e]at this
    exact this
   ·have:=hcc 1 (by omega);obtain⟨b,o,s⟩:=x;simp only at hsp;subst hsp;have e:((⟨b,o,none⟩:Addr).add (j*2)).add 1=⟨b,o+j*2+1,none⟩:=by
     have e':∀o n,(⟨b,o,none⟩:Addr).add n=⟨b,o+n,none⟩:=fun o n=>by unfold Addr.add;split<;>simp_all
     rw[e',e']
    rw[e]at this
    exact this
   ·have e:=congrArg Prod.fst hD;simp only at e;rw[e];simp only[Rows.uptoBulk,Rows.uptoBulkAll,qF];omega
  have build:∀k,k≤len→∃l:List AT,l.length=len-k∧(∀j (h:j<l.length),∃g off,some x=some ⟨g,off,none⟩∧W.cell? ⟨g,off+(k+j)*2,none⟩=some (.string (l[j]).1)∧W.cell? ⟨g,off+(k+j)*2+1,none⟩=some (.string (l[j]).2))∧mN l≤Rows.uptoBulkAll ((List.range' k (len-k)).map D):=by
   intro k hk;obtain⟨i,hi⟩:∃i,i=len-k:=⟨_,rfl⟩
   induction i generalizing k with
   | zero=>exact⟨[],by simp;omega,fun j hj=>absurd hj (by simp),by simp[mN]⟩
   | succ i ih =>
    obtain⟨l,h1,h2,h3⟩:=ih (k+1) (by omega) (by omega);obtain⟨hsp,q,q1,q2,q3⟩:=step k (by omega);refine⟨q :: l,by simp;omega,?_,?_⟩
    ·intro j hj;cases j with
     | zero =>
      refine⟨x.block,x.off,?_,q1,q2⟩;obtain⟨b,o,s⟩:=x;simp only at hsp;rw[hsp]
     | succ j =>
      obtain⟨g,off,e,c1,c2⟩:=h2 j (by simpa using hj);rw[show k+1+j=k+(j+1) by omega]at c1 c2
      exact⟨g,off,e,c1,c2⟩
    ·rw[aFy D len k (by omega)];unfold mN;omega
  obtain⟨l,h1,h2,h3⟩:=build 0 (Nat.zero_le _);refine⟨_,l,rfl,⟨some x,_,by rw[h1,Nat.sub_zero],fun j hj=>?_⟩,?_⟩
  ·obtain⟨g,off,e,c1,c2⟩:=h2 j hj;rw[Nat.zero_add]at c1 c2
   exact⟨g,off,e,c1,c2⟩
  ·rw[Nat.sub_zero,←List.range_eq_range']at h3
   simp only[Rows.uptoBulk];omega
theorem aI4:∀l:List AT,l.length≤mN l:=by
 intro l;induction l with
 | nil=>exact Nat.le_refl _
 | cons x l ih=>unfold mN;simp;omega
theorem aI5:∀(l:List AT) (x:AT),x∈l→x.1.size+x.2.size≤mN l:=by
 intro l;induction l with
 | nil=>intro x h;simp at h
 | cons y l ih =>
  intro x h;unfold mN;rcases List.mem_cons.1 h with rfl|h
  ·omega
  ·have:=ih x h;omega
theorem aGU {a:Option Addr}{len cap:Nat}{d:DataW H}{p:List MemPlace}(h:DataW.Trod enc Tryz.prog W 0 (fun _=>true) true 33 (.slice a len cap) d p) :
  ∃l:List AT,dL W (.slice a len cap) l∧len=l.length∧mN l≤Rows.uptoBulk d:=by
 obtain⟨fuel,hf⟩:=h;obtain⟨v,l,e,hA,hb⟩:=aI9 hf;simp[Value.cells]at e
 subst e;have hA':=hA;obtain⟨a',c',e,_⟩:=hA';simp only[Value.slice.injEq]at e;exact⟨l,hA,e.2.1,hb⟩
open Go.RowKit
theorem aGC (e n s:ByteArray)(la:Option Addr)(lc:Nat)(l:List AT)(he:e.size≤1048576)(hn:n.size≤1048576)(hs:s.size≤1048576)(hl:mN l≤1048576)(w:World)(T:aA w)(hA:dL w (.slice la l.length lc) l) :
  Calls Tryz.prog 10 #[.string e,.string n,.string s,.slice la l.length lc] w (cI true w):=by
 have hll:=aI4 l;have hmem:=aI5 l;obtain⟨V,hV⟩:=aOw w T e (by omega);obtain⟨o,ho⟩:=aBV w T e n s hs;have hsz:Hid (∀x∈l,x.1.size≤1048576∧x.2.size≤1048576):=fun x hx=>by
  have:=hmem x hx;omega
 refine aEJ e n s V l la lc (by omega) w T (aMo w T) o (fun W TW=>qK e n s o (by omega) (by omega) hs ho W TW) (fun W TW=>aAy w T e n s o hs hn he ho W TW) ?_ ?_ hA
 ·exact fun W av TW h=>aF2 e (by omega) V (hid hV.val) l (by omega) hsz av W TW (hid h)
 ·exact fun W av TW h=>aF7 e V (hid (fun n v h1 h2 W TW=>aAy w T e n v (V n v) h2 h1 he (hV.val n v h1 h2) W TW)) l (by omega) hsz av W TW (hid h)
end Go.Proofs.YtcfgbdhpcboikaaGreatDoor
