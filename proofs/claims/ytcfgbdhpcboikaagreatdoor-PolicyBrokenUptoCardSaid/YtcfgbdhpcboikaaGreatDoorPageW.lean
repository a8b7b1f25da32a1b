/-
  The law's page, around one b.
  The attributes of a page's meta element.
  The law's page around any kids.
  The law's page with an attribute on its body, and with a third kid.
  policy.heads of every list of nodes.
-/
import Derived.Test.YtcfgbdhpcboikaaGreatDoorHoldF
import Derived.Test.YtcfgbdhpcboikaaGreatDoorNodes
import Derived.Test.YtcfgbdhpcboikaaGreatDoorCellsA
import Derived.Test.YtcfgbdhpcboikaaGreatDoorHeldB
namespace Go.Proofs.YtcfgbdhpcboikaaGreatDoor
set_option maxHeartbeats 4000000
set_option maxRecDepth 100000
open Go.RowKit
theorem five_allocs (w:World)(o0 o1 o2 o3 o4:Obj):((((((w.alloc o0).alloc o1).alloc o2).alloc o3).alloc o4).heap[w.heap.size+1]?=some o1)∧((((((w.alloc o0).alloc o1).alloc o2).alloc o3).alloc o4).heap[w.heap.size+1+1+1]?=some o3)∧((((((w.alloc o0).alloc o1).alloc o2).alloc o3).alloc o4).heap[w.heap.size+1+1+1+1]?=some o4)∧Below w.heap.size w (((((w.alloc o0).alloc o1).alloc o2).alloc o3).alloc o4):=by
  have e0:(w.alloc o0).heap.size=w.heap.size+1:=by simp
  have e1:((w.alloc o0).alloc o1).heap.size=w.heap.size+1+1:=by simp
  have e2:(((w.alloc o0).alloc o1).alloc o2).heap.size=w.heap.size+1+1+1:=by simp
  have e3:((((w.alloc o0).alloc o1).alloc o2).alloc o3).heap.size=w.heap.size+1+1+1+1:=by simp
  refine⟨?_,?_,?_,?_⟩
  · rw[Below.heap_alloc _ _ _ (by omega),Below.heap_alloc _ _ _ (by omega),Below.heap_alloc _ _ _ (by omega),← e0]
    exact heap_alloc_new _ _
  · rw[Below.heap_alloc _ _ _ (by omega),← e2]
    exact heap_alloc_new _ _
  · rw[← e3]
    exact heap_alloc_new _ _
  · exact(((((Below.refl _ w).alloc (Nat.le_refl _) _).alloc (by omega) _).alloc (by omega) _).alloc (by omega) _).alloc (by omega) _
def PagePost (w:World)(gb ob cb:Nat)(a':Option Addr)(n' c':Nat)(e:Ending)(w':World):Prop :=
  ∃ gh gm ga,e=.returned (elV sHtml (some ⟨gh,0,none⟩) 2 2)∧PageAt w' gh 0 gm 0 1 ga 0 1 gb ob cb a' n' c'∧Below w.heap.size w w'
theorem page_one (gb ob cb:Nat)(a':Option Addr)(n' c':Nat)(w:World)(hk:Six w gb ob (.int .i64 1) (.int .i64 0) (.string ⟨#[98]⟩) (.slice none 0 0) (.string ⟨#[]⟩) (.slice a' n' c')) :
    Calls Tryz.prog 40 #[.slice (some ⟨gb,ob,none⟩) 1 cb] w (PagePost w gb ob cb a' n' c'):=by
  have HK:=Lib.hid hk
  clear hk
  go_enter Tryz.func40,Tryz.ntmps40
  go_wp2
  obtain⟨h1,h3,h4,hb⟩:=five_allocs w (.cells #[.int .i64 1,.int .i64 0,.string ⟨#[104,116,109,108]⟩,.slice none 0 0,.string ⟨#[]⟩,.slice (some ⟨w.heap.size+1+1+1+1,0,none⟩) 2 2] 45)
    (.cells #[.string ⟨#[99,104,97,114,115,101,116]⟩,.string ⟨#[117,116,102,45,56]⟩] 39)
    (.cells #[.int .i64 1,.int .i64 0,.string ⟨#[109,101,116,97]⟩,.slice (some ⟨w.heap.size+1,0,none⟩) 1 1,.string ⟨#[]⟩,.slice none 0 0] 45)
    (.cells #[.int .i64 1,.int .i64 0,.string ⟨#[109,101,116,97]⟩,.slice (some ⟨w.heap.size+1,0,none⟩) 1 1,.string ⟨#[]⟩,.slice none 0 0] 45)
    (.cells #[.int .i64 1,.int .i64 0,.string ⟨#[104,101,97,100]⟩,.slice none 0 0,.string ⟨#[]⟩,.slice (some ⟨w.heap.size+1+1+1,0,none⟩) 1 1,.int .i64 1,.int .i64 0,.string ⟨#[98,111,100,121]⟩,.slice none 0 0,.string ⟨#[]⟩,.slice (some ⟨gb,ob,none⟩) 1 cb] 45)
  refine bodyPost_ret (v:=elV sHtml (some ⟨w.heap.size+1+1+1+1,0,none⟩) 2 2) (by unfold elV sHtml;simp[results,Tryz.results40,go_sem]) rfl ⟨w.heap.size+1+1+1+1,w.heap.size+1+1+1,w.heap.size+1,rfl,⟨?_,?_,?_,?_,HK.out.below hb (Nat.le_refl _)⟩,hb⟩
  · have h:∀ j,_:=fun j=>cell_of_row _ (w.heap.size+1+1+1+1) j _ 45 (0,0) h4
    exact⟨h 0,h 1,h 2,h 3,h 4,h 5⟩
  · have h:∀ j,_:=fun j=>cell_of_row _ (w.heap.size+1+1+1+1) j _ 45 (0,0) h4
    exact⟨h 6,h 7,h 8,h 9,h 10,h 11⟩
  · have h:∀ j,_:=fun j=>cell_of_row _ (w.heap.size+1+1+1) j _ 45 (0,0) h3
    exact⟨h 0,h 1,h 2,h 3,h 4,h 5⟩
  · have h:∀ j,_:=fun j=>cell_of_row _ (w.heap.size+1) j _ 39 (0,0) h1
    exact⟨h 0,h 1⟩
def metaAttrs:List (ByteArray × ByteArray):=[(⟨#[99,104,97,114,115,101,116]⟩,⟨#[117,116,102,45,56]⟩)]
open Go.RowKit
def metaNd:Nd:=.mk 1 0 sMeta metaAttrs ⟨#[]⟩ []
def headNd:Nd:=.mk 1 0 sHead [] ⟨#[]⟩ [metaNd]
def bodyNd (ks:List Nd):Nd:=.mk 1 0 sBody [] ⟨#[]⟩ ks
def htmlNd (ks:List Nd):Nd:=.mk 1 0 sHtml [] ⟨#[]⟩ ks
def pageOf (ks:List Nd):Nd:=htmlNd [headNd,bodyNd ks]
structure PgAt (w:World) (gh gm ga:Nat) (a:Option Addr) (n c:Nat):Prop where
  hd:Six w gh 0 (.int .i64 1) (.int .i64 0) (.string ⟨#[104,101,97,100]⟩) (.slice none 0 0) (.string ⟨#[]⟩) (.slice (some ⟨gm,0,none⟩) 1 1)
  bd:Six w gh 6 (.int .i64 1) (.int .i64 0) (.string ⟨#[98,111,100,121]⟩) (.slice none 0 0) (.string ⟨#[]⟩) (.slice a n c)
  mt:Six w gm 0 (.int .i64 1) (.int .i64 0) (.string ⟨#[109,101,116,97]⟩) (.slice (some ⟨ga,0,none⟩) 1 1) (.string ⟨#[]⟩) (.slice none 0 0)
  at':Two w ga 0 (.string ⟨#[99,104,97,114,115,101,116]⟩) (.string ⟨#[117,116,102,45,56]⟩)
theorem PgAt.below {w w':World}{B gh gm ga:Nat}{a:Option Addr}{n c:Nat}(h:PgAt w gh gm ga a n c)(hb:Below B w w')(hB:w.heap.size≤B):PgAt w' gh gm ga a n c :=
  ⟨h.hd.below hb hB,h.bd.below hb hB,h.mt.below hb hB,h.at'.below hb hB⟩
theorem none_attrs (w:World):AttrsV w (.slice none 0 0) []:=⟨none,0,rfl,fun j h=>absurd h (by simp)⟩
theorem meta_node {w:World}{ga:Nat}(h:Two w ga 0 (.string ⟨#[99,104,97,114,115,101,116]⟩) (.string ⟨#[117,116,102,45,56]⟩)):NodeV w metaNd (.agg #[.int .i64 1,.int .i64 0,.string sMeta,.slice (some ⟨ga,0,none⟩) 1 1,.string ⟨#[]⟩,.slice none 0 0]):=by
  unfold metaNd NodeV
  refine⟨_,none,0,rfl,by simp,⟨some ⟨ga,0,none⟩,1,rfl,?_⟩,by unfold KidsV;trivial⟩
  intro j hj
  have:j=0:=by simp[metaAttrs] at hj;omega
  subst this
  exact⟨ga,0,rfl,h.1,h.2⟩
theorem head_node {w:World}{gh gm ga:Nat}{a:Option Addr}{n c:Nat}(h:PgAt w gh gm ga a n c):NodeV w headNd (.agg #[.int .i64 1,.int .i64 0,.string sHead,.slice none 0 0,.string ⟨#[]⟩,.slice (some ⟨gm,0,none⟩) 1 1]):=by
  unfold headNd NodeV
  refine⟨_,some ⟨gm,0,none⟩,1,rfl,by simp,none_attrs w,?_⟩
  unfold KidsV
  exact⟨⟨gm,0,_,_,_,_,_,_,rfl,h.mt,meta_node h.at'⟩,by unfold KidsV;trivial⟩
theorem body_node {w:World}{ks:List Nd}{a:Option Addr}{c:Nat}(hl:ks.length≤140737488355328)(hk:KidsV w a 0 ks):NodeV w (bodyNd ks) (.agg #[.int .i64 1,.int .i64 0,.string sBody,.slice none 0 0,.string ⟨#[]⟩,.slice a ks.length c]):=by
  unfold bodyNd NodeV
  exact⟨_,a,c,rfl,hl,none_attrs w,hk⟩
theorem html_node {w:World}{x y:Nd}{g c:Nat}{c0 c1 c2 c3 c4 c5 d0 d1 d2 d3 d4 d5:Value}(h1:Six w g 0 c0 c1 c2 c3 c4 c5)(h2:Six w g 6 d0 d1 d2 d3 d4 d5)(hx:NodeV w x (.agg #[c0,c1,c2,c3,c4,c5]))(hy:NodeV w y (.agg #[d0,d1,d2,d3,d4,d5])):NodeV w (htmlNd [x,y]) (elV sHtml (some ⟨g,0,none⟩) 2 c):=by
  unfold htmlNd NodeV
  refine⟨_,some ⟨g,0,none⟩,c,rfl,by simp,none_attrs w,?_⟩
  unfold KidsV
  refine⟨⟨g,0,_,_,_,_,_,_,rfl,h1,hx⟩,?_⟩
  unfold KidsV
  exact⟨⟨g,0,_,_,_,_,_,_,rfl,h2,hy⟩,by unfold KidsV;trivial⟩
theorem page_nodeA {w:World}{gh gm ga:Nat}{ks:List Nd}{a:Option Addr}{c:Nat}(h:PgAt w gh gm ga a ks.length c)(hl:ks.length≤140737488355328)(hk:KidsV w a 0 ks):NodeV w (pageOf ks) (elV sHtml (some ⟨gh,0,none⟩) 2 2) :=
  html_node h.hd h.bd (head_node h) (body_node hl hk)
def PageRet (w:World)(a:Option Addr)(n c:Nat)(e:Ending)(w':World):Prop :=
  ∃ gh gm ga,e=.returned (elV sHtml (some ⟨gh,0,none⟩) 2 2)∧PgAt w' gh gm ga a n c∧Below w.heap.size w w'∧(w.heap.size≤gh∧w.heap.size≤gm∧w.heap.size≤ga∧gh≠gm∧gh≠ga)∧w'.heap[gh]?=some (.cells #[.int .i64 1,.int .i64 0,.string ⟨#[104,101,97,100]⟩,.slice none 0 0,.string ⟨#[]⟩,.slice (some ⟨gm,0,none⟩) 1 1,.int .i64 1,.int .i64 0,.string ⟨#[98,111,100,121]⟩,.slice none 0 0,.string ⟨#[]⟩,.slice a n c] 45 (0,0))
theorem page_any (a:Option Addr)(n c:Nat)(w:World):Calls Tryz.prog 40 #[.slice a n c] w (PageRet w a n c):=by
  go_enter Tryz.func40,Tryz.ntmps40
  go_wp2
  obtain⟨h1,h3,h4,hb⟩:=five_allocs w (.cells #[.int .i64 1,.int .i64 0,.string ⟨#[104,116,109,108]⟩,.slice none 0 0,.string ⟨#[]⟩,.slice (some ⟨w.heap.size+1+1+1+1,0,none⟩) 2 2] 45)
    (.cells #[.string ⟨#[99,104,97,114,115,101,116]⟩,.string ⟨#[117,116,102,45,56]⟩] 39)
    (.cells #[.int .i64 1,.int .i64 0,.string ⟨#[109,101,116,97]⟩,.slice (some ⟨w.heap.size+1,0,none⟩) 1 1,.string ⟨#[]⟩,.slice none 0 0] 45)
    (.cells #[.int .i64 1,.int .i64 0,.string ⟨#[109,101,116,97]⟩,.slice (some ⟨w.heap.size+1,0,none⟩) 1 1,.string ⟨#[]⟩,.slice none 0 0] 45)
    (.cells #[.int .i64 1,.int .i64 0,.string ⟨#[104,101,97,100]⟩,.slice none 0 0,.string ⟨#[]⟩,.slice (some ⟨w.heap.size+1+1+1,0,none⟩) 1 1,.int .i64 1,.int .i64 0,.string ⟨#[98,111,100,121]⟩,.slice none 0 0,.string ⟨#[]⟩,.slice a n c] 45)
  refine bodyPost_ret (v:=elV sHtml (some ⟨w.heap.size+1+1+1+1,0,none⟩) 2 2) (by unfold elV sHtml;simp[results,Tryz.results40,go_sem]) rfl ⟨w.heap.size+1+1+1+1,w.heap.size+1+1+1,w.heap.size+1,rfl,⟨?_,?_,?_,?_⟩,hb,by omega,h4⟩
  · have h:∀ j,_:=fun j=>cell_of_row _ (w.heap.size+1+1+1+1) j _ 45 (0,0) h4
    exact⟨h 0,h 1,h 2,h 3,h 4,h 5⟩
  · have h:∀ j,_:=fun j=>cell_of_row _ (w.heap.size+1+1+1+1) j _ 45 (0,0) h4
    exact⟨h 6,h 7,h 8,h 9,h 10,h 11⟩
  · have h:∀ j,_:=fun j=>cell_of_row _ (w.heap.size+1+1+1) j _ 45 (0,0) h3
    exact⟨h 0,h 1,h 2,h 3,h 4,h 5⟩
  · have h:∀ j,_:=fun j=>cell_of_row _ (w.heap.size+1) j _ 39 (0,0) h1
    exact⟨h 0,h 1⟩
open Go.RowKit
theorem head_nodeD {w:World}{gh gm ga:Nat}{a:Option Addr}{n c:Nat}(h:PgAt w gh gm ga a n c):NodeD (fun g=>g=gm∨g=ga) w headNd (.agg #[.int .i64 1,.int .i64 0,.string sHead,.slice none 0 0,.string ⟨#[]⟩,.slice (some ⟨gm,0,none⟩) 1 1]):=by
  unfold headNd NodeD
  refine⟨none,0,some ⟨gm,0,none⟩,1,rfl,by simp,fun j hj=>absurd hj (by simp),?_⟩
  unfold KidsD
  refine⟨⟨gm,0,_,_,_,_,_,_,rfl,.inl rfl,h.mt,?_⟩,by unfold KidsD;trivial⟩
  unfold metaNd NodeD
  refine⟨some ⟨ga,0,none⟩,1,none,0,rfl,by simp,fun j hj=>?_,by unfold KidsD;trivial⟩
  have:j=0:=by simp[metaAttrs] at hj;omega
  subst this
  exact⟨ga,0,rfl,.inr rfl,h.at'.1,h.at'.2⟩
def tBody (t x:ByteArray)(ks:List Nd):Nd:=.mk 1 0 sBody [(t,x)] ⟨#[]⟩ ks
theorem page_titled {W:World}{gh gm ga gt:Nat}{a:Option Addr}{c:Nat}{ks:List Nd}(h:PgAt W gh gm ga a ks.length c)(h1:gh≠gm)(h2:gh≠ga)(h3:gt≠gh)(t x:ByteArray)(ht:Two W gt 0 (.string t) (.string x))
    (hl:ks.length≤140737488355328) (hk:KidsD (fun g=>g≠gh) W a 0 ks) :
    NodeV (W.setCell ⟨gh,9,none⟩ (.slice (some ⟨gt,0,none⟩) 1 1)) (htmlNd [headNd,tBody t x ks]) (elV sHtml (some ⟨gh,0,none⟩) 2 2):=by
  have keep:∀ g,g≠gh→(W.setCell ⟨gh,9,none⟩ (.slice (some ⟨gt,0,none⟩) 1 1)).heap[g]?=W.heap[g]?:=fun g hg=>heap_setCell_other W ⟨gh,9,none⟩ g _ hg
  have hc:∀ k v,k≠9→W.cell? ⟨gh,k,none⟩=some v→(W.setCell ⟨gh,9,none⟩ (.slice (some ⟨gt,0,none⟩) 1 1)).cell? ⟨gh,k,none⟩=some v:=fun k v hk h=>by
    rw[World.cell?_setCell_other _ _ _ _ (fun e=>hk (by simp only[Addr.mk.injEq] at e;omega))]
    exact h
  have h9:(W.setCell ⟨gh,9,none⟩ (.slice (some ⟨gt,0,none⟩) 1 1)).cell? ⟨gh,9,none⟩=some (.slice (some ⟨gt,0,none⟩) 1 1):=World.cell?_setCell_same _ _ _ h.bd.x3
  generalize W.setCell ⟨gh,9,none⟩ (.slice (some ⟨gt,0,none⟩) 1 1)=W' at *
  have q1:Six W' gh 0 (.int .i64 1) (.int .i64 0) (.string sHead) (.slice none 0 0) (.string ⟨#[]⟩) (.slice (some ⟨gm,0,none⟩) 1 1) :=
    ⟨hc _ _ (by decide) h.hd.x0,hc _ _ (by decide) h.hd.x1,hc _ _ (by decide) h.hd.x2,hc _ _ (by decide) h.hd.x3,hc _ _ (by decide) h.hd.x4,hc _ _ (by decide) h.hd.x5⟩
  have q2:Six W' gh 6 (.int .i64 1) (.int .i64 0) (.string sBody) (.slice (some ⟨gt,0,none⟩) 1 1) (.string ⟨#[]⟩) (.slice a ks.length c) :=
    ⟨hc _ _ (by decide) h.bd.x0,hc _ _ (by decide) h.bd.x1,hc _ _ (by decide) h.bd.x2,h9,hc _ _ (by decide) h.bd.x4,hc _ _ (by decide) h.bd.x5⟩
  refine html_node q1 q2 ((head_nodeD h).keep (D':=fun _=>True) (fun g _ hg=>⟨keep g (by rcases hg with rfl|rfl<;>omega),trivial⟩)).node ?_
  unfold tBody NodeV
  refine⟨_,a,c,rfl,hl,⟨some ⟨gt,0,none⟩,1,rfl,fun j hj=>?_⟩,?_⟩
  · have:j=0:=by simp at hj;omega
    subst this
    exact⟨gt,0,rfl,cell_same (keep gt h3) ht.1,cell_same (keep gt h3) ht.2⟩
  · exact(hk.keep (D':=fun _=>True) (fun g _ hg=>⟨keep g hg,trivial⟩)).kids
theorem page_three {W:World}{n c:Nat}{a:Option Addr}{x y z:Nd}{c0 c1 c2 c3 c4 c5 d0 d1 d2 d3 d4 d5 e0 e1 e2 e3 e4 e5:Value}(hv:VecAt W (.slice a 3 c) n ([]++[c0,c1,c2,c3,c4,c5]++[d0,d1,d2,d3,d4,d5]++[e0,e1,e2,e3,e4,e5]))(hn:n=3)
    (hx:NodeV W x (.agg #[c0,c1,c2,c3,c4,c5])) (hy:NodeV W y (.agg #[d0,d1,d2,d3,d4,d5])) (hz:NodeV W z (.agg #[e0,e1,e2,e3,e4,e5])):NodeV W (htmlNd [x,y,z]) (elV sHtml a 3 c):=by
  subst hn
  have h0:CellsOf W [] []:=⟨rfl,fun j h=>absurd h (by simp)⟩
  have hc:=((h0.snoc hx).snoc hy).snoc hz
  unfold htmlNd NodeV
  exact⟨_,a,c,rfl,by simp,none_attrs W,kids_of_cells hv hc⟩
open Go.RowKit
theorem NodeV.kidsV {w:World}{n:Nd}{c0 c1 c2 c3 c4:Value}{a:Option Addr}{m b:Nat}(h:NodeV w n (.agg #[c0,c1,c2,c3,c4,.slice a m b])):KidsV w a 0 n.kids:=by
  obtain⟨av,a',c',e,_,hK,_⟩:=h.get
  simp only[Value.agg.injEq] at e
  have e5:=congrArg (fun x:Array Value=>x[5]?) e
  simp at e5
  rw[e5.1]
  exact hK
def metaB (m:Nd):Bool:=elemN m&&(decide (m.name=sMeta)&&(decide (m.kids.length=0)&&decide (m.attrs=metaAttrs)))
def plainN (t:Nd)(name:ByteArray):Bool:=plainB t.kind t.space t.name t.text t.attrs.length name
def titleB (t:Nd):Bool:=plainN t sTitle&&(match t.kids with|[x]=>wordsN x|_=>false)
theorem titleB_eq (t:Nd):titleB t=(plainN t sTitle&&(match t.kids with|[x]=>wordsN x|_=>false)):=rfl
def headsB:List Nd→Bool
  | []=>false
  | m :: []=>metaB m
  | m :: [t]=>metaB m&&titleB t
  | _ :: _ :: _ :: _=>false
theorem headsB_cons (m:Nd)(ks:List Nd)(h:ks.length≤1):headsB (m :: ks)=(metaB m&&(match ks with|[t]=>titleB t|_=>true)):=by
  match ks,h with
  | [],_=>unfold headsB;simp
  | [t],_=>rfl
theorem heads_any (ks:List Nd)(a:Option Addr)(c:Nat)(hl:ks.length≤2000000)(w:World)(HT:Hid (Tabs w))(HS:Hid (SmK ks))(HK:Hid (KidsV w a 0 ks))(b:Bool)(hb:Hid (headsB ks=b)) :
    Calls Tryz.prog 91 #[.slice a ks.length c] w (SomeBool b w):=by
  match ks with
  | [] =>
    have HF:Hid (b=false):=by show _=_;rw[← hb.out];rfl
    go_enter Tryz.func91,Tryz.ntmps91
    go_wp2
    go_ret
    exact⟨by rw[HF.out];rfl,Below.refl _ _⟩
  | m :: ks =>
    by_cases h2:2≤ks.length
    · have HF:Hid (b=false):=by
        show _=_
        rw[← hb.out]
        match ks,h2 with
        | _ :: _ :: _,_=>rfl
      have hlen:((m :: ks).length:Int)=(ks.length:Int)+1:=by simp
      have h3:3≤(m :: ks).length:=by simp;omega
      clear hlen
      generalize (m :: ks).length=n at *
      go_enter Tryz.func91,Tryz.ntmps91
      go_wp2
      go_ret
      exact⟨by rw[HF.out];rfl,Below.refl _ _⟩
    · obtain⟨g,off,c0,c1,c2,c3,c4,c5,rfl,h6,hn⟩:=HK.out.get (m :: ks) 0 0 (by simp)
      simp only[List.getElem_cons_zero,Nat.zero_mul,Nat.add_zero] at h6 hn
      obtain⟨a1,b1,a2,b2,rfl,rfl,rfl,rfl,rfl,rfl⟩:=hn.cells
      have hbb:=hb.out
      rw[headsB_cons m ks (by omega)] at hbb
      have HB:=Lib.hid hbb
      have hn1:1≤(m :: ks).length:=by simp
      have hn2:(m :: ks).length≤2:=by simp;omega
      obtain⟨n,hn'⟩:∃ n,n=(m :: ks).length:=⟨_,rfl⟩
      rw[← hn'] at hn1 hn2 ⊢
      have HN:=Lib.hid hn'
      have HA:=Lib.hid hn.attrs
      generalize hkl:m.kids.length=kl at *
      have HKL:=Lib.hid hkl
      have HSM:=Lib.hid (show SmN m∧SmK ks by have:=HS.out;unfold SmK at this;exact this)
      obtain⟨x0,x1,x2,x3,x4,x5⟩:=h6
      have HE:=Lib.hid (fun W=>elem_any m.kind m.space m.name m.text (.slice a1 m.attrs.length b1) (.slice a2 kl b2) W (elemN m) (Lib.hid rfl))
      clear hbb hn hn' hb hl hkl
      rcases(show n=1∨n=2 by omega) with rfl|rfl
      all_goals (
        go_enter Tryz.func91,Tryz.ntmps91
        go_wp2_with fail
        have hP:=six_alloc w (.int .i64 m.kind) (.int .i64 m.space) (.string m.name) (.slice a1 m.attrs.length b1) (.string m.text) (.slice a2 kl b2)
        have hB:=(Below.refl w.heap.size w).alloc (Nat.le_refl _) (.cells #[.int .i64 m.kind,.int .i64 m.space,.string m.name,.slice a1 m.attrs.length b1,.string m.text,.slice a2 kl b2] 45)
        have HP:=Lib.hid hP
        have HBa:=Lib.hid hB
        refine(HE.out _).mono ?_
        unfold SomeBool
        rintro e W1 ⟨rfl,B1⟩
        obtain⟨y0,y1,y2,y3,y4,y5⟩:=(HP.out.below B1 (Nat.le_refl _)).zero
        have HBw:=Lib.hid (HBa.out.trans (B1.mono (by simp)))
        clear hP hB HP HBa HE B1 x0 x1 x2 x3 x4 x5
        cases he:elemN m with
        | false =>
          have HF:Hid (b=false):=by show _=_;rw[← HB.out];unfold metaB;rw[he];rfl
          clear he
          go_wp2
          go_ret
          exact⟨by rw[HF.out];rfl,HBw.out⟩
        | true =>
          by_cases hm:m.name=sMeta
          · have e1:(m.name.toList==[109,101,116,97])=true:=by rw[hm];decide +kernel
            by_cases hk:kl=0
            · subst hk
              have HMM:Hid (metaB m=decide (m.attrs=metaAttrs)):=by show _=_;unfold metaB;rw[he,decide_eq_true hm,decide_eq_true HKL.out];rfl
              clear he hm
              go_wp2_with fail
              obtain⟨W2,hW2⟩:∃ W2,W2=W1.alloc (.cells #[.string ⟨#[99,104,97,114,115,101,116]⟩,.string ⟨#[117,116,102,45,56]⟩] 39):=⟨_,rfl⟩
              have hB2:Below W1.heap.size W1 W2:=by rw[hW2];exact(Below.refl _ W1).alloc (Nat.le_refl _) _
              have hV2:AttrsV W2 (.slice (some ⟨W1.heap.size,0,none⟩) 1 1) metaAttrs:=by
                refine⟨_,1,rfl,fun j hj=>?_⟩
                have hj0:j=0:=by simp[metaAttrs] at hj;omega
                subst hj0
                refine⟨W1.heap.size,0,rfl,?_,?_⟩
                · rw[hW2,cell_of_row _ W1.heap.size _ _ 39 (0,0) (heap_alloc_new W1 _)];rfl
                · rw[hW2,cell_of_row _ W1.heap.size _ _ 39 (0,0) (heap_alloc_new W1 _)];rfl
              rw[← hW2]
              obtain⟨be,hbe⟩:∃ be,decide (m.attrs=metaAttrs)=be:=⟨_,rfl⟩
              rw[hbe] at HMM
              have hBw2:=HBw.out.trans (hB2.mono HBw.out.size)
              refine(equal_any _ _ m.attrs metaAttrs (by have:=HSM.out.1.get.2.2.1;omega) (by simp[metaAttrs]) W2 (Lib.hid (HA.out.below hBw2 (Nat.le_refl _))) (Lib.hid hV2) be (Lib.hid hbe)).mono ?_
              unfold SomeBool
              rintro e W3 ⟨rfl,B3⟩
              have HBw3:=Lib.hid (hBw2.trans (B3.mono hBw2.size))
              clear hB2 hV2 hW2 hBw2 B3 hbe y0 y1 y2 y3 y4 y5 HBw e1
              cases be with
              | false =>
                have HF:Hid (b=false):=by show _=_;rw[← HB.out,HMM.out];rfl
                go_wp2
                go_ret
                exact⟨by rw[HF.out];rfl,HBw3.out⟩
              | true =>
                cases ks with
                | nil =>
                  first
                  | (have h:=HN.out;simp only[List.length_cons,List.length_nil] at h;omega)
                  | (have HF : Hid (b = true) := by show _ = _; rw [← HB.out, HMM.out]; rfl
                     go_wp2
                     go_ret
                     exact ⟨by rw [HF.out]; rfl, HBw3.out⟩)
                | cons t ks =>
                  first
                  | (have h:=HN.out;simp only[List.length_cons] at h;omega)
                  | (have ht0 : ks = [] := List.eq_nil_of_length_eq_zero (by have := HN.out; simp only [List.length_cons] at this; omega)
                     subst ht0
                     have HT2:Hid (titleB t=b):=by show _=_;rw[← HB.out,HMM.out];rfl
                     obtain⟨g',off',d0,d1,d2,d3,d4,d5,e,h6',hn'⟩:=HK.out.get [m,t] 0 1 (by simp)
                     cases e
                     obtain⟨l1,l2,l3,l4,rfl,rfl,rfl,rfl,rfl,rfl⟩:=hn'.cells
                     have h7:=h6'.below HBw3.out (Nat.le_refl _)
                     have HSX:=Lib.hid (HSM.out.2)
                     simp only[List.getElem_cons_succ,List.getElem_cons_zero,Nat.zero_add,Nat.one_mul] at h7 hn' h6'
                     have HKT:=Lib.hid hn'.kidsV
                     have HST:=Lib.hid (show SmN t by have:=HSX.out;unfold SmK at this;exact this.1)
                     obtain⟨x0,x1,x2,x3,x4,x5⟩:=h7
                     generalize hal:t.attrs.length=al at *
                     generalize htl:t.kids.length=tl at *
                     have HPL:=Lib.hid (fun W=>plain_any t.kind t.space t.name t.text l1 al l2 (.slice l3 tl l4) sTitle W (plainN t sTitle) (Lib.hid (by unfold plainN;rw[hal])))
                     have HTL:=Lib.hid htl
                     clear hal htl h6' hn'
                     go_wp2_with fail
                     refine(HPL.out _).mono ?_
                     unfold SomeBool
                     rintro e W4 ⟨rfl,B4⟩
                     have HBw4:=Lib.hid (HBw3.out.trans (B4.mono HBw3.out.size))
                     have h8:=(Six.mk x0 x1 x2 x3 x4 x5).below B4 (Nat.le_refl _)
                     clear HPL B4 x0 x1 x2 x3 x4 x5
                     obtain⟨x0,x1,x2,x3,x4,x5⟩:=h8
                     cases hp:plainN t sTitle with
                     | false =>
                       have HF:Hid (b=false):=by show _=_;rw[← HT2.out,titleB_eq,hp];rfl
                       clear hp
                       go_wp2
                       go_ret
                       exact⟨by rw[HF.out];rfl,HBw4.out⟩
                     | true =>
                       by_cases ht1:tl=1
                       · subst ht1
                         obtain⟨x,hx⟩:∃ x,t.kids=[x]:=List.length_eq_one_iff.1 HTL.out
                         have HTX:Hid (wordsN x=b):=by show _=_;rw[← HT2.out,titleB_eq,hp,hx];rfl
                         have hkx:=HKT.out
                         have hsx:=HST.out.get.2.2.2.2
                         rw[hx] at hkx hsx
                         obtain⟨g',off',d0,d1,d2,d3,d4,d5,e,h9,hn9⟩:=hkx.get [x] 0 0 (by simp)
                         obtain rfl:=e
                         obtain⟨k1,k2,k3,k4,rfl,rfl,rfl,rfl,rfl,rfl⟩:=hn9.cells
                         simp only[List.getElem_cons_zero,Nat.zero_mul,Nat.add_zero] at h9
                         have HSXX:=Lib.hid (show SmN x by unfold SmK at hsx;exact hsx.1)
                         obtain⟨z0,z1,z2,z3,z4,z5⟩:=h9.below HBw4.out (Nat.le_refl _)
                         clear hkx hsx hn9 h9 hp hx
                         go_wp2_with fail
                         refine(ptext_any x.kind x.space x.name x.text (by have:=HSXX.out.get.2.1;omega) k1 x.attrs.length k2 k3 x.kids.length k4 W4 (HT.out.below HBw4.out (Nat.le_refl _)) b HTX).mono ?_
                         unfold SomeBool
                         rintro e W5 ⟨rfl,B5⟩
                         have HBw5:=Lib.hid (HBw4.out.trans (B5.mono HBw4.out.size))
                         clear B5
                         go_wp2
                         go_ret
                         exact⟨rfl,HBw5.out⟩
                       · have HF:Hid (b=false):=by
                           show _=_
                           rw[← HT2.out,titleB_eq]
                           have h1:=HTL.out
                           match hk:t.kids with
                           | []=>simp
                           | [x]=>rw[hk] at h1;simp at h1;omega
                           | _ :: _ :: _=>simp
                         have e2:((tl:Int)==1)=false:=by rw[beq_eq_false_iff_ne];omega
                         clear hp
                         go_wp2
                         go_ret
                         exact⟨by rw[HF.out];rfl,HBw4.out⟩)
            · have HF:Hid (b=false):=by show _=_;rw[← HB.out];unfold metaB;rw[HKL.out,decide_eq_false hk];simp
              have e2:((kl:Int) !=0)=true:=by rw[bne_iff_ne];omega
              clear he hm
              go_wp2
              go_ret
              exact⟨by rw[HF.out];rfl,HBw.out⟩
          · have HF:Hid (b=false):=by show _=_;rw[← HB.out];unfold metaB;rw[decide_eq_false hm];simp
            have e1:(m.name.toList==[109,101,116,97])=false:=by
              rw[beq_eq_false_iff_ne]
              intro h
              exact hm (ba_ext (by rw[← toList_data,h];rfl))
            clear he hm
            go_wp2
            go_ret
            exact⟨by rw[HF.out];rfl,HBw.out⟩)
end Go.Proofs.YtcfgbdhpcboikaaGreatDoor
