/-
Regions that draw their order where two loud operations may be ready at once: the schedule as a tree.
-/
import Derived.Test.YtcfgbdhpcboikaaGreatDoorHeadsW
namespace Go.Proofs.YtcfgbdhpcboikaaGreatDoor
open Go.Lib (hid)
set_option maxHeartbeats 2000000
set_option maxRecDepth 100000
theorem iW {n:Nat}:n<=n:=Nat.le_refl n
inductive Sch
 | done
 | quiet (i:Nat) (t:Sch)
 | loud (i:Nat) (t:Sch)
 | two (i:Nat) (t:Sch) (j:Nat) (u:Sch)
 | three (i:Nat) (t:Sch) (j:Nat) (u:Sch) (k:Nat) (v:Sch)
section
variable {P:Program} {ops:Array Oper} {md:Region.Mode} {S:World->Prop} {Q:Exit->Act->World->Prop}
def zJ (P:Program)(ops:Array Oper)(S:World->Prop)(i:Nat)(T:Act->World->Prop)(a:Act)(w:World):Prop :=
 match ops[i]? with
 | none=>False
 | some o=>if Region.wanted o (yielded ops a.tmps)then o.wp P a w (fun a' w'=>S w'/\T a' w') (fun _ _ _=>False)else T (a.put o.dst undef) w
def yR (P:Program)(ops:Array Oper)(S:World->Prop)(K:Act->World->Prop):Sch->Act->World->Prop
 | .done,a,w=>K a w
 | .quiet i t,a,w =>
  match ops[i]? with
  | none=>False
  | some o =>
   if Region.wanted o (yielded ops a.tmps)then ∃v,(∀u,S u->(execOp a.eval o).run P u=.ok (.value v) u)/\yR P ops S K t (a.put o.dst v) w
   else yR P ops S K t (a.put o.dst undef) w
 | .loud i t,a,w=>zJ P ops S i (yR P ops S K t) a w
 | .two i t j u,a,w=>zJ P ops S i (yR P ops S K t) a w/\zJ P ops S j (yR P ops S K u) a w
 | .three i t j u k v,a,w=>zJ P ops S i (yR P ops S K t) a w/\zJ P ops S j (yR P ops S K u) a w/\zJ P ops S k (yR P ops S K v) a w
inductive Sg
 | fin (last:List Nat)
 | one (qs:List Nat) (i:Nat) (t:Sg)
 | two (qs:List Nat) (i:Nat) (t:Sg) (j:Nat) (u:Sg)
 | three (qs:List Nat) (i:Nat) (t:Sg) (j:Nat) (u:Sg) (k:Nat) (v:Sg)
end
open Go.RowKit
def wN (ph:List ByteArray):Prop:=∀p∈ph,aW p.data.toList=4
theorem wN.nil:wN []:=fun p hp=>by simp at hp
theorem wN.of {ph:List ByteArray}(h:wN ph)(nm:ByteArray):wN (aL3 nm ph):=by
 unfold aL3;split;{intro p hp;rcases List.mem_append.1 hp with hp|hp;{exact h p hp};{rw[List.mem_singleton.1 hp];assumption}};{exact h}
mutual
def jB:Nd->Nat
 | .mk _ _ _ _ _ ks=>gY ks+1
def gY:List Nd->Nat
 | []=>0
 | n :: ns=>max (jB n) (gY ns)
end
theorem aNB:∀m:Nat,(∀(n:Nd) (d:Nat) (l:Int),n.sz<=m->((jB n<=d/\(n.sz:Int)<=l)->eG d n l=l-n.sz)/\(0<=eG d n l->0<=l->jB n<=d/\(n.sz:Int)<=l/\eG d n l=l-n.sz)) /\
  (∀(ks:List Nd) (d:Nat) (l:Int),aG ks<=m->((gY ks<=d/\(aG ks:Int)<=l)->jQ d ks l=l-aG ks)/\(0<=jQ d ks l->gY ks<=d/\(aG ks:Int)<=l/\jQ d ks l=l-aG ks)):=by
 intro m;induction m with|zero=>{refine⟨fun n _ _ hn=>absurd (eY n) (by omega),fun ks=>?_⟩;cases ks with|nil=>{intro d l _;unfold jQ aG gY;exact⟨fun _=>by simp,fun h=>⟨Nat.zero_le _,by simpa using h,by simp⟩⟩}|cons k ks=>{intro d l hs;unfold aG at hs;exact absurd (eY k) (by omega)}}|succ m ih=>{have hN:∀(n:Nd) (d:Nat) (l:Int),n.sz<=m+1->((jB n<=d/\(n.sz:Int)<=l)->eG d n l=l-n.sz)/\(0<=eG d n l->0<=l->jB n<=d/\(n.sz:Int)<=l/\eG d n l=l-n.sz):=by{intro n d l hs;cases n with|mk kd sp nm at' tx ks=>{unfold Nd.sz at hs ⊢;unfold jB;cases d with|zero=>{unfold eG;exact⟨fun h=>absurd h.1 (by omega),fun h=>absurd h (by omega)⟩}|succ d=>{unfold eG;obtain⟨h1,h2⟩:=ih.2 ks d (l-1) (by omega);constructor;{rintro⟨h3,h4⟩;rw[h1 ⟨by omega,by omega⟩];omega};{intro h3 _;obtain⟨h4,h5,h6⟩:=h2 h3;exact⟨by omega,by omega,by omega⟩}}}};refine⟨hN,fun ks=>?_⟩;induction ks with|nil=>{intro d l _;unfold jQ aG gY;exact⟨fun _=>by simp,fun h=>⟨Nat.zero_le _,by simpa using h,by simp⟩⟩}|cons k ks ihk=>{intro d l hs;unfold aG at hs ⊢;unfold jQ gY;obtain⟨h1,h2⟩:=hN k d l (by omega);obtain⟨h3,h4⟩:=ihk d (eG d k l) (by omega);have hp:=eY k;constructor;{rintro⟨h5,h6⟩;have e:=h1 ⟨by omega,by omega⟩;rw[if_neg (by omega),h3 ⟨by omega,by omega⟩,e];omega};{intro h5;by_cases hl:l<0;{rw[if_pos hl]at h5;omega};{rw[if_neg hl]at h5 ⊢;obtain⟨h6,h7,h8⟩:=h4 h5;obtain⟨h9,h10,h11⟩:=h2 (by omega) (by omega);exact⟨by omega,by omega,by omega⟩}}}}
theorem aNA (n:Nd):0<=eG 32 n 1000↔jB n<=32/\n.sz<=1000:=by
 obtain⟨h1,h2⟩:=(aNB n.sz).1 n 32 1000 iW;constructor;{intro h;obtain⟨a,b,_⟩:=h2 h (by omega);exact⟨a,by omega⟩};{rintro⟨a,b⟩;rw[h1 ⟨a,by omega⟩];omega}
section
variable {P:Program} {ops:Array Oper} {md:Region.Mode} {S:World->Prop} {Q:Exit->Act->World->Prop}
end
section
variable {P:Program} {ops:Array Oper} {md:Region.Mode} {S:World->Prop} {Q:Exit->Act->World->Prop}
end
open Go.RowKit
open Go.RowKit
theorem cR.more {D:Nat->Prop}{w:World}{x:Nd}{c0 c1 c2 c3 c4 c5:Value}(h:cR D w x (.agg #[c0,c1,c2,c3,c4,c5]))(t:ByteArray):cR D w (x.more t) (.agg #[c0,c1,c2,c3,.string (x.text++t),c5]):=by
 cases x with|mk kd sp nm at' tx ks=>{unfold cR at h;unfold Nd.more cR;obtain⟨aa,ca,a,c,e,h1,h2,h3⟩:=h;simp only[Value.agg.injEq,Array.mk.injEq,List.cons.injEq,and_true]at e;obtain⟨rfl,rfl,rfl,rfl,rfl,rfl⟩:=e;exact⟨aa,ca,a,c,rfl,h1,h2,h3⟩}
theorem fT.more {D:Nat->Prop}{w:World}{xs:List Value}{ys:List Nd}{x:Nd}(h:fT D w xs (ys++[x]))(t:ByteArray):fT D w (xs.set (ys.length*6+4) (.string (x.text++t))) (ys++[x.more t]):=by
 refine⟨by rw[List.length_set,h.1];simp,fun j hj=>?_⟩;have hj':j<(ys++[x]).length:=by{simpa using hj};obtain⟨c0,c1,c2,c3,c4,c5,h0,h1,h2,h3,h4,h5,hn⟩:=h.2 j hj';have keep:∀i v,i≠ys.length*6+4->xs[i]?=some v->(xs.set (ys.length*6+4) (.string (x.text++t)))[i]?=some v:=fun i v hi hv=>by{rw[List.getElem?_set_ne (fun e=>hi e.symm)];exact hv}
 by_cases hjl:j<ys.length;{refine⟨c0,c1,c2,c3,c4,c5,keep _ _ (by omega) h0,keep _ _ (by omega) h1,keep _ _ (by omega) h2,keep _ _ (by omega) h3,keep _ _ (by omega) h4,keep _ _ (by omega) h5,?_⟩;rw[List.getElem_append_left hjl]at hn ⊢;exact hn};{have hje:j=ys.length:=by{simp at hj;omega};subst hje;have hlt:ys.length*6+4<xs.length:=by{rw[h.1];simp;omega};refine⟨c0,c1,c2,c3,.string (x.text++t),c5,keep _ _ (by omega) h0,keep _ _ (by omega) h1,keep _ _ (by omega) h2,keep _ _ (by omega) h3,List.getElem?_set_self hlt,keep _ _ (by omega) h5,?_⟩;rw[List.getElem_append_right iW]at hn ⊢;have hn':cR D w x (.agg #[c0,c1,c2,c3,c4,c5]):=by{simpa using hn};simpa using hn'.more t}
theorem Sv.more {p:Nat}{pn:ByteArray}{pv:Value}{ph:List ByteArray}{ys:List Nd}{x:Nd}{W1 w:World}{g c n:Nat}{xs:List Value}(at':p=W1.heap.size)(phr:Phr W1 pv ph)(hn:n=(ys++[x]).length)
  (hr:w.heap[p]?=some (.cells #[.string pn,pv,.slice (some ⟨g,0,none⟩) n c] 151 (0,0))) (hO:aT p 45 6 (.slice (some ⟨g,0,none⟩) n c) n xs W1 w) (hne:g≠p)
  (hC:fT (fun k=>p<k/\(Value.slice (some ⟨g,0,none⟩) n c).ownBlock≠some k) w xs (ys++[x])) (t:ByteArray) :
  Sv p pn pv ph (ys++[x.more t]) W1 (w.setCell ⟨g,ys.length*6+4,none⟩ (.string (x.text++t))):=by
 have hl:(ys++[x.more t]).length=n:=by{rw[hn];simp};refine⟨at',⟨.slice (some ⟨g,0,none⟩) n c,_,?_,?_,fun e=>hne (Option.some.inj (show some g=some p from e)),(hC.more t).keep (fun k _ hk=>⟨heap_setCell_other w ⟨g,_,none⟩ k _ (fun e=>hk.2 (by rw[e];rfl)),hk⟩)⟩,phr⟩
 {rw[heap_setCell_other w ⟨g,_,none⟩ p _ (Ne.symm hne)];exact hr};{rw[hl];exact hO.setCell _ _}
theorem Sv.push {p:Nat}{pn:ByteArray}{pv:Value}{ph:List ByteArray}{out:List Nd}{x:Nd}{W1 W5 W6:World}{g n c:Nat}{xs:List Value}{c0 c1 c2 c3 c4 c5:Value}(at':p=W1.heap.size)(phr:Phr W1 pv ph)(hn:n=out.length+1)(hne:g≠p)
  (hr:W6.heap[p]?=some (.cells #[.string pn,pv,.slice (some ⟨g,0,none⟩) n c] 151 (0,0))) (hO:aT p 45 6 (.slice (some ⟨g,0,none⟩) n c) n (xs++[c0,c1,c2,c3,c4,c5]) W1 W6)
  (hC:fT (fun k=>p<k/\g≠k) W5 xs out) (hx:cR (fun k=>p<k/\g≠k) W5 x (.agg #[c0,c1,c2,c3,c4,c5])) (hoth:∀k,k≠g->k≠p->W6.heap[k]?=W5.heap[k]?) :
  Sv p pn pv ph (out++[x]) W1 W6:=by
 have hl:(out++[x]).length=n:=by{rw[hn];simp};refine⟨at',⟨.slice (some ⟨g,0,none⟩) n c,_,hr,by rw[hl];exact hO,fun e=>hne (Option.some.inj (show some g=some p from e)),?_⟩,phr⟩;have h:=(hC.snoc hx).keep (D':=fun k=>p<k/\g≠k) (w':=W6) (fun k _ hk=>⟨hoth k (Ne.symm hk.2) (by omega),hk⟩);exact h.keep (fun k _ hk=>⟨rfl,hk.1,fun e=>hk.2 (Option.some.inj (show some g=some k from e))⟩)
theorem fT.at {D:Nat->Prop}{w:World}{xs:List Value}{ys:List Nd}{x:Nd}(h:fT D w xs (ys++[x])):xs[ys.length*6]?=some (.int .i64 x.kind)/\xs[ys.length*6+4]?=some (.string x.text):=by
 obtain⟨c0,c1,c2,c3,c4,c5,h0,h1,h2,h3,h4,h5,hn⟩:=h.2 ys.length (by simp);have hx:(ys++[x])[ys.length]'(by simp)=x:=by{rw[List.getElem_append_right iW];simp};rw[hx]at hn
 obtain⟨_,_,_,_,e0,_,_,_,e4,_⟩:=hn.node.cells;rw[e0]at h0;rw[e4]at h4;exact⟨h0,h4⟩
open Go.RowKit
mutual
def Nd.tk:Nd->Nat
 | .mk _ _ _ _ tx ks=>1+tx.size+aMX ks
def aMX:List Nd->Nat
 | []=>0
 | k :: ks=>k.tk+aMX ks
end
open Go.RowKit
theorem tA:aG []=0:=by unfold aG;rfl
theorem lS (n:Nd)(l:List Nd):aG (n :: l)=n.sz+aG l:=by conv=>lhs;unfold aG
theorem aKq:∀a b:List Nd,aG (a++b)=aG a+aG b:=by
 intro a;induction a with|nil=>{intro b;rw[List.nil_append,tA];omega}|cons x a ih=>{intro b;rw[List.cons_append,lS,lS,ih];omega}
open Go.RowKit
theorem aH2:∀(l:List Nd) (k:Nat) (h:k<l.length),aG (l.take (k+1))=aG (l.take k)+l[k].sz:=by
 intro l;induction l with|nil=>{intro k h;simp at h}|cons n l ih=>{intro k h;cases k with|zero=>{rw[List.take_zero,tA,List.take_succ_cons,List.take_zero,lS,tA];simp}|succ k=>{have:=ih k (by simpa using h);rw[List.take_succ_cons,List.take_succ_cons,lS,lS,this,List.getElem_cons_succ];omega}}
theorem vY (l:List Nd)(k:Nat):aG (l.take k)<=aG l:=by
 have:=aKq (l.take k) (l.drop k);rw[List.take_append_drop]at this;omega
theorem vD:gY []=0:=by unfold gY;rfl
theorem sF (n:Nd)(l:List Nd):gY (n :: l)=max (jB n) (gY l):=by conv=>lhs;unfold gY
theorem aGn (n:Nd):jB n=gY n.kids+1:=by
 cases n;conv=>lhs;unfold jB
 rfl
theorem aIJ:∀(l:List Nd) (k:Nat) (h:k<l.length),gY (l.take (k+1))=max (gY (l.take k)) (jB l[k]):=by
 intro l;induction l with|nil=>{intro k h;simp at h}|cons n l ih=>{intro k h;cases k with|zero=>{rw[List.take_zero,vD,List.take_succ_cons,List.take_zero,sF,vD];simp}|succ k=>{have:=ih k (by simpa using h);rw[List.take_succ_cons,List.take_succ_cons,sF,sF,this,List.getElem_cons_succ];omega}}
theorem aD5:(∀n:Nd,jB n<=n.sz)/\∀l:List Nd,gY l<=aG l:=by
 refine aEA (P:=fun n=>jB n<=n.sz) (Q:=fun l=>gY l<=aG l) ?_ ?_ ?_;{intro n ih;rw[aGn,gJ];omega};{rw[vD];exact Nat.zero_le _};{intro n ns h1 h2;rw[sF,lS];omega}
open Go.RowKit
theorem aL8 (kd sp:Int)(nm tx:ByteArray)(a:Option Addr)(na c:Nat)(kv:Value)(name:ByteArray)(w:World)(b:Bool)
  (h:(b=false/\(kd==1)=false)\/(b=false/\kd=1/\(sp==0)=false)\/(b=false/\kd=1/\sp=0/\tx.toList.isEmpty=false/\¬tx.toList=[])\/(b=false/\kd=1/\sp=0/\tx=⟨#[]⟩/\(nm.toList==name.toList)=false)\/(kd=1/\sp=0/\tx=⟨#[]⟩/\(nm.toList==name.toList)=true/\((na:Int)==0)=b)) :
  Calls Tryz.prog 98 #[.agg #[.int .i64 kd,.int .i64 sp,.string nm,.slice a na c,.string tx,kv],.string name] w (aB b w):=by
 go_enter Tryz.func98,Tryz.ntmps98;rcases h with⟨rfl,h⟩|⟨rfl,rfl,h⟩|⟨rfl,rfl,rfl,h,h'⟩|⟨rfl,rfl,rfl,rfl,h⟩|⟨rfl,rfl,rfl,h,h'⟩
 all_goals
  go_wp2
  go_ret;exact⟨rfl,(Below.refl _ w).alloc iW _⟩
theorem nH (kd sp:Int)(nm tx:ByteArray)(a:Option Addr)(na c:Nat)(kv:Value)(name:ByteArray)(w:World)(b:Bool)(hb:mF kd sp nm tx na name=b) :
  Calls Tryz.prog 98 #[.agg #[.int .i64 kd,.int .i64 sp,.string nm,.slice a na c,.string tx,kv],.string name] w (aB b w):=by
 refine aL8 kd sp nm tx a na c kv name w b ?_;unfold mF pA at hb;by_cases h1:kd=1;{by_cases h2:sp=0;{cases h3:tx.data.toList.isEmpty with|false=>{exact .inr (.inr (.inl ⟨by rw[<-hb,h3];simp,h1,h2,qU h3,uB h3⟩))}|true=>{by_cases h4:nm=name;{refine .inr (.inr (.inr (.inr ⟨h1,h2,mT h3,by rw[h4];simp,?_⟩)));rw[<-hb,decide_eq_true h1,decide_eq_true h2,h3,decide_eq_true h4,Bool.eq_iff_iff,beq_iff_eq];simp};{exact .inr (.inr (.inr (.inl ⟨by rw[<-hb,decide_eq_false h4];simp,h1,h2,mT h3,by rw[beq_eq_false_iff_ne];exact pQ h4⟩)))}}};{exact .inr (.inl ⟨by rw[<-hb,decide_eq_false h2];simp,h1,by rw[beq_eq_false_iff_ne];exact h2⟩)}};{exact .inl ⟨by rw[<-hb,decide_eq_false h1];rfl,by rw[beq_eq_false_iff_ne];exact h1⟩}
theorem nK (kd sp:Int)(nm tx:ByteArray)(a:Option Addr)(na c:Nat)(a':Option Addr)(nk c':Nat)(w:World)
  (h:(kd==2)=false\/(kd=2/\(sp==0)=false)\/(kd=2/\sp=0/\(nm.toList.isEmpty=false/\¬nm.toList=[]))\/(kd=2/\sp=0/\nm=⟨#[]⟩/\((na:Int)==0)=false)\/(kd=2/\sp=0/\nm=⟨#[]⟩/\na=0/\((nk:Int)==0)=false)\/(kd=2/\sp=0/\nm=⟨#[]⟩/\na=0/\nk=0/\tx=⟨#[]⟩)) :
  Calls Tryz.prog 99 #[.agg #[.int .i64 kd,.int .i64 sp,.string nm,.slice a na c,.string tx,.slice a' nk c']] w (aB false w):=by
 go_enter Tryz.func99,Tryz.ntmps99;rcases h with h|⟨rfl,h⟩|⟨rfl,rfl,h,h'⟩|⟨rfl,rfl,rfl,h⟩|⟨rfl,rfl,rfl,rfl,h⟩|⟨rfl,rfl,rfl,rfl,rfl,rfl⟩
 all_goals
  go_wp2
  go_quiet (fail)
  go_wp2
  go_ret;exact⟨rfl,((Below.refl _ w).alloc iW _).trans ((below_drewNm _ nq).mono (by simp))⟩
theorem aHS (tx:ByteArray)(hz:tx.size<=1000000000)(_k1:¬tx.toList=[])(k2:tx.toList.isEmpty=false)(a:Option Addr)(c:Nat)(a':Option Addr)(c':Nat)(w:World)(b:Bool)(hb:Hid (decide (gE tx=tx)=b)) :
  Calls Tryz.prog 99 #[.agg #[.int .i64 2,.int .i64 0,.string ⟨#[]⟩,.slice a 0 c,.string tx,.slice a' 0 c']] w (aB b w):=by
 have X:=fun W=>yB tx hz W;have ht:(⟨(cT tx.data.toList).toArray⟩:ByteArray)=gE tx:=rfl;rw[ht]at X;have hcmp:((gE tx).toList==tx.toList)=b:=by{rw[<-hb.out];by_cases h:gE tx=tx;{rw[h];simp};{rw[decide_eq_false h,beq_eq_false_iff_ne];exact pQ h}};have HX:=hid X;generalize gE tx=y at *
 clear X ht hb;go_enter Tryz.func99,Tryz.ntmps99;go_wp2_with fail;obtain⟨W0,hW0⟩:∃W0,W0=w.alloc (.cells #[.int .i64 2,.int .i64 0,.string ⟨#[]⟩,.slice a 0 c,.string tx,.slice a' 0 c'] 45):=⟨_,rfl⟩;have hB0:Below w.heap.size w W0:=by{rw[hW0];exact(Below.refl _ w).alloc iW _};have hP:=bC w (.int .i64 2) (.int .i64 0) (.string ⟨#[]⟩) (.slice a 0 c) (.string tx) (.slice a' 0 c');rw[<-hW0]at hP
 try rw[<-hW0]
 have HP:=hid hP;have HB0:=hid hB0;clear hP hB0 hW0;obtain⟨S,hS⟩:∃S:World->Prop,∀u,S u↔Below W0.heap.size W0 u:=⟨_,fun _=>Iff.rfl⟩;have g0:∀s:WIn S,s.w.cell? ⟨w.heap.size,0,none⟩=some (.int .i64 2):=fun s=>(HP.out.below ((hS _).1 s.h) iW).x0;have g1:∀s:WIn S,s.w.cell? ⟨w.heap.size,1,none⟩=some (.int .i64 0):=fun s=>(HP.out.below ((hS _).1 s.h) iW).x1;have g2:∀s:WIn S,s.w.cell? ⟨w.heap.size,2,none⟩=some (.string ⟨#[]⟩):=fun s=>(HP.out.below ((hS _).1 s.h) iW).x2;have g3:∀s:WIn S,s.w.cell? ⟨w.heap.size,3,none⟩=some (.slice a 0 c):=fun s=>(HP.out.below ((hS _).1 s.h) iW).x3;have g4:∀s:WIn S,s.w.cell? ⟨w.heap.size,4,none⟩=some (.string tx):=fun s=>(HP.out.below ((hS _).1 s.h) iW).x4;have g5:∀s:WIn S,s.w.cell? ⟨w.heap.size,5,none⟩=some (.slice a' 0 c'):=fun s=>(HP.out.below ((hS _).1 s.h) iW).x5;haveI:Nonempty (WIn S):=⟨⟨W0,(hS _).2 (Below.refl _ _)⟩⟩;have HS:=hid hS;clear hS;refine dI 38 [([0,1,2,3,4,5,6,7,8,9,10,11,12,13,14,15,16,17,18,19,20,21,22,23,24,25,26,27,28,29,30,31,32,34,35],33)] [36,37] S (by kernel_rfl) (by kernel_rfl) ((HS.out _).2 (below_drewNm W0 1)) ?_;refine bE (fun K' hK'=>?_);simp only[pick,pickZ,pickS,pickG];repeat (go_big_quiet_step (fail))
 refine wpQuiet_nil (hK' _ (fun Q1 hQ1=>?_));clear hK' K';simp only[pick,pickZ,pickS,pickG];go_wp2_with fail;have hBw:Below w.heap.size w (W0.drewN 1):=HB0.out.trans ((below_drewNm W0 1).mono HB0.out.size);refine(HX.out _).mono ?_;rintro e W1 ⟨rfl,B1⟩;have hB01:Below W0.heap.size W0 W1:=(below_drewNm W0 1).trans (B1.mono (below_drewNm W0 1).size);have HB1:=hid (hBw.trans (B1.mono hBw.size));have HB01:=hid hB01;clear B1 hB01 hBw;go_wp2_with fail;refine hQ1 _ _ ((HS.out _).2 HB01.out) (dP (fun K' hK'=>?_));clear hQ1 Q1;simp only[pick,pickZ,pickS,pickG];repeat (go_big_quiet_step (fail))
 refine wpQuiet_nil (hK' _ (fun Q4 hQ4=>?_));clear hK' K';simp only[List.drop_succ_cons,List.drop_zero];clear g0 g1 g2 g3 g4 g5;go_wp2;go_ret;exact⟨rfl,HB1.out⟩
theorem aBO (kd sp:Int)(nm tx:ByteArray)(hz:tx.size<=1000000000)(a:Option Addr)(na c:Nat)(a':Option Addr)(nk c':Nat)(w:World)(b:Bool)(hb:Hid (uS kd sp nm tx na nk=b)) :
  Calls Tryz.prog 99 #[.agg #[.int .i64 kd,.int .i64 sp,.string nm,.slice a na c,.string tx,.slice a' nk c']] w (aB b w):=by
 have hb':=hb.out;unfold uS at hb';by_cases h1:kd=2;{by_cases h2:sp=0;{cases h3:nm.data.toList.isEmpty with|false=>{obtain rfl:false=b:=by{rw[<-hb',decide_eq_true h1,decide_eq_true h2,h3];rfl};exact nK kd sp nm tx a na c a' nk c' w (.inr (.inr (.inl ⟨h1,h2,qU h3,uB h3⟩)))}|true=>{have hnm:=mT h3;by_cases h4:na=0;{by_cases h5:nk=0;{cases h6:tx.data.toList.isEmpty with|true=>{obtain rfl:false=b:=by{rw[<-hb',h6];simp};exact nK kd sp nm tx a na c a' nk c' w (.inr (.inr (.inr (.inr (.inr ⟨h1,h2,hnm,h4,h5,mT h6⟩)))))}|false=>{subst h1 h2 hnm h4 h5;refine aHS tx hz (uB h6) (qU h6) a c a' c' w b ?_;show _=_;rw[<-hb',h6];simp}};{obtain rfl:false=b:=by{rw[<-hb',decide_eq_false h5];simp};exact nK kd sp nm tx a na c a' nk c' w (.inr (.inr (.inr (.inr (.inl ⟨h1,h2,hnm,h4,by rw[beq_eq_false_iff_ne];omega⟩)))))}};{obtain rfl:false=b:=by{rw[<-hb',decide_eq_false h4];simp};exact nK kd sp nm tx a na c a' nk c' w (.inr (.inr (.inr (.inl ⟨h1,h2,hnm,by rw[beq_eq_false_iff_ne];omega⟩))))}}};{obtain rfl:false=b:=by{rw[<-hb',decide_eq_false h2];simp};exact nK kd sp nm tx a na c a' nk c' w (.inr (.inl ⟨h1,by rw[beq_eq_false_iff_ne];exact h2⟩))}};{obtain rfl:false=b:=by{rw[<-hb',decide_eq_false h1];rfl};exact nK kd sp nm tx a na c a' nk c' w (.inl (by rw[beq_eq_false_iff_ne];exact h1))}
theorem aKa:∀(m:Nat) (n:Nd),n.sz<=m->∀(v:Value) (w:World),n.sz<=1000000000->Hid (aQ w n v) ->
  Calls Tryz.prog 97 #[v] w fun e w'=>e=.returned (.tuple #[.int .i64 (n.sz:Nat),.int .i64 (jB n:Nat)])/\Below w.heap.size w w':=by
 intro m;induction m with|zero=>{intro n hn;exact absurd (eY n) (by omega)}|succ m ih=>{intro n hn v w hb hV;obtain⟨av,a,c,rfl,hA,hK,hlen⟩:=hV.out.get;have HK:=hid hK;have HIH:=hid ih;have HSZ:=hid (gJ n);have HDZ:=hid (aGn n);have HN:=hid hn;clear hA hK ih hn hV;generalize n.kids=ks at *;generalize n.sz=nz at *;generalize jB n=nd at *;have hz1:aG ks<=1000000000:=by{have:=HSZ.out;omega};have hd1:∀k,gY (ks.take k)<=1000000000:=fun k=>by{have:=aD5.2 (ks.take k);have:=vY ks k;omega};have HD1:=hid hd1;have HZM:Hid (aG ks<=m):=by{show _<=_;have:=HSZ.out;have:=HN.out;omega};obtain⟨W0,hW0⟩:∃W0,W0=w.alloc (.cells #[.int .i64 n.kind,.int .i64 n.space,.string n.name,av,.string n.text,.slice a ks.length c] 45):=⟨_,rfl⟩;have hB0:Below w.heap.size w W0:=by{rw[hW0];exact(Below.refl _ w).alloc iW _};have hP0:=bC w (.int .i64 n.kind) (.int .i64 n.space) (.string n.name) av (.string n.text) (.slice a ks.length c);rw[<-hW0]at hP0;have HP0:=hid hP0;have HB0:=hid hB0;have HW0:=hid hW0;clear HN hd1 hP0 hB0 hW0;go_enter Tryz.func97,Tryz.ntmps97;go_wp2_with fail;rw[<-HW0.out];go_loopw [4,5,6] (fun s d i wx=>∃k:Nat,i=.int .i64 k/\s=.int .i64 ((1+aG (ks.take k):Nat):Int)/\d=.int .i64 (gY (ks.take k):Nat)/\Hid (k<=ks.length/\Below W0.heap.size W0 wx)) (fun _ _ i _=>ks.length-(intOf i).toNat);(case atStart=>exact⟨0,rfl,by rw[List.take_zero,tA];rfl,by rw[List.take_zero,vD];rfl,hid ⟨Nat.zero_le _,Below.refl _ _⟩⟩);case round =>obtain⟨k,rfl,rfl,rfl,hR⟩:=hrel;have hk:=hR.out.1;have hRw:Below w.heap.size w wr:=HB0.out.trans (hR.out.2.mono HB0.out.size);have HRW:=hid hRw;obtain⟨y0,y1,y2,y3,y4,y5⟩:=(HP0.out.below hR.out.2 iW).zero;clear hRw;rcases Nat.lt_or_ge k ks.length with hlt|hge;{obtain⟨g,off,c0,c1,c2,c3,c4,c5,rfl,h6,hn⟩:=HK.out.get ks 0 k hlt;rw[Nat.zero_add]at h6;obtain⟨x0,x1,x2,x3,x4,x5⟩:=h6.below HRW.out iW;obtain⟨a1,b1,a2,b2,rfl,rfl,rfl,rfl,rfl,rfl⟩:=hn.cells;have HND:=hid (hn.below HRW.out iW);have HST:=hid (aH2 ks k hlt);have HDT:=hid (aIJ ks k hlt);have hpl:=vY ks (k+1);rw[HST.out]at hpl;have hqm:ks[k].sz<=m:=by{have:=HZM.out;omega};have hqd:jB ks[k]<=1000000000:=by{have:=aD5.1 ks[k];omega};have hdl:=HD1.out k;clear hn h6;generalize ks[k]=q at *;generalize hs0:aG (ks.take k)=s0 at *;generalize hd0:gY (ks.take k)=d0 at *;have HC:=hid (fun(v:Value) (W:World) (h:Hid (aQ W q v))=>HIH.out q hqm v W (by omega) h);clear hqm;go_wp2_with fail;refine(HC.out _ _ HND).mono ?_;rintro e W2 ⟨rfl,B2⟩;have HB3:=hid (hR.out.2.trans (B2.mono hR.out.2.size));clear B2;rcases Nat.lt_or_ge d0 (jB q)with hdq|hdq;{have HMX:=hid (show gY (ks.take (k+1))=jB q by rw[HDT.out];omega);go_wp2;go_roundw;(case rel=>exact⟨k+1,by go_num,by rw[HST.out];go_num,by rw[HMX.out],hid ⟨hlt,HB3.out⟩⟩);case measure=>simp[intOf];omega};{have HMX:=hid (show gY (ks.take (k+1))=d0 by rw[HDT.out];omega);go_wp2;go_roundw;(case rel=>exact⟨k+1,by go_num,by rw[HST.out];go_num,by rw[HMX.out],hid ⟨hlt,HB3.out⟩⟩);case measure=>simp[intOf];omega}};{have HT:=hid (show ks.take k=ks by rw[List.take_of_length_le hge]);have hdk:=HD1.out k;have hsk:=vY ks k;go_wp2;go_ret2;refine⟨?_,HRW.out⟩;rw[HSZ.out,HDZ.out,HT.out];simp}}
open Go.RowKit
open Go.RowKit
def Nd.put (n:Nd)(ks:List Nd):Nd:=.mk n.kind n.space n.name n.attrs n.text ks
open Go.RowKit
structure aMH (W0 wx:World) (h:Nat) (c0 c1 c2 c3 c4:Value) (m:Nat) (xs:List Value):Prop where
 box:∃a c,wx.heap[h]?=some (.cells #[c0,c1,c2,c3,c4,.slice a m c] 45 (0,0))/\jN wx (.slice a m c) m xs/\∀y,a=some y->W0.heap.size<=y.block
 other:∀i,i<W0.heap.size->i≠h->wx.heap[i]?=W0.heap[i]?
 os:wx.os=W0.os
 tape:wx.tape=W0.tape
 output:wx.output=W0.output
 size:W0.heap.size<=wx.heap.size
theorem aMH.of {W0 W2:World}{h m n:Nat}{a a2:Option Addr}{c cc:Nat}{c0 c1 c2 c3 c4:Value}{xs:List Value}(hr:W0.heap[h]?=some (.cells #[c0,c1,c2,c3,c4,.slice a n c] 45 (0,0)))(hO:aT W0.heap.size 45 6 (.slice a2 m cc) m xs W0 W2):aMH W0 (W2.setCell ⟨h,5,none⟩ (.slice a2 m cc)) h c0 c1 c2 c3 c4 m xs:=by
 have hlt:h<W0.heap.size:=(Array.getElem?_eq_some_iff.1 hr).1;have hr2:W2.heap[h]?=some (.cells #[c0,c1,c2,c3,c4,.slice a n c] 45 (0,0)):=by{rw[hO.bel.block h hlt];exact hr};have e:=setCell_eq_setRow W2 h 5 #[c0,c1,c2,c3,c4,.slice a n c] 45 (0,0) (.slice a2 m cc) hr2;have hh:=setRow_heap W2 h _ (#[c0,c1,c2,c3,c4,.slice a n c].setIfInBounds 5 (.slice a2 m cc)) 45 _ hr2;refine⟨⟨a2,cc,?_,?_,?_⟩,fun i hi hne=>?_,?_,?_,?_,?_⟩
 {rw[e];simpa using hh};{obtain⟨a',c',e',hv⟩:=hO.vec;obtain⟨a'',c'',e'',_,hb⟩:=hO.slice;refine⟨a',c',e',fun j u hj=>?_⟩;obtain⟨g,off,ha,hc⟩:=hv j u hj;refine⟨g,off,ha,?_⟩;have hg:W0.heap.size<=g:=by{simp only[Value.slice.injEq]at e' e'';exact(hb ⟨g,off,none⟩ (by rw[<-e''.1,e'.1,ha])).1};have hne:g≠h:=by{omega};rw[World.cell?_of_block (heap_setCell_other W2 ⟨h,5,none⟩ g _ hne)];exact hc};{obtain⟨a'',c'',e'',_,hb⟩:=hO.slice;simp only[Value.slice.injEq]at e'';intro y hy;exact(hb y (by rw[<-e''.1,hy])).1};{rw[heap_setCell_other W2 ⟨h,5,none⟩ i _ hne];exact hO.bel.block i hi};{exact hO.bel.os};{exact hO.bel.tape};{exact hO.bel.output};{rw[e];have:=hO.bel.size;simpa [World.setRow]using this}
open Go.RowKit
open Go.RowKit
theorem cR.cells {D:Nat->Prop}{w:World}{n:Nd}{v:Value}(h:cR D w n v):∃a b a' b',v=.agg #[.int .i64 n.kind,.int .i64 n.space,.string n.name,.slice a n.attrs.length b,.string n.text,.slice a' n.kids.length b']:=by
 cases n with|mk kd sp nm at' tx ks=>{unfold cR at h;obtain⟨aa,ca,a,c,e,_⟩:=h;exact⟨aa,ca,a,c,e⟩}
section
variable {P:Program} {w:World} {ops:Array Oper} {rest:List Oper} {o:Oper} {a:Act} {Q:Exit->Act->World->Prop}
end
open Go.RowKit
open Go.RowKit
open Go.RowKit
open Go.RowKit
open Go.RowKit
