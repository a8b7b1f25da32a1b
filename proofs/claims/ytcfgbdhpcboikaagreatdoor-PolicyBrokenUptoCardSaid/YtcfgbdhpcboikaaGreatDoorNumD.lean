/-
  real.numeral: the walk's two ways (with a point, without one).
-/
import Derived.Test.YtcfgbdhpcboikaaGreatDoorNum
namespace Go.Proofs.YtcfgbdhpcboikaaGreatDoor
set_option maxHeartbeats 16000000
open Go.RowKit
theorem numeral_bare (s s1 s2:ByteArray)(n:Nat)(v:Bool)(w:World)(h40:s.size≤40)(hz1:s1.size≤40)(hz2:s2.size≤s1.size)
  (TR:∀ w,Calls Tryz.prog 117 #[.string s,.string { data:=#[45] }] w fun e w'=>e=.returned (.string s1)∧w=w')
  (D1:∀ w,Calls Tryz.prog 112 #[.string s1] w fun e w'=>e=.returned (.int .i64 n)∧w=w')
  (c2:∀ w,(Instr.slice 9 (.string s1) (some (.int .i64 n)) none none).run Tryz.prog w=.ok (.string s2) w)
  (DOT:∀ w,Calls Tryz.prog 118 #[.string s2,.string { data:=#[46] }] w fun e w'=>e=.returned (.bool false)∧w=w')
  (_hns:n≤s1.size) (hv:Num2 s2 n v) :
  Calls Tryz.prog 65 #[.string s] w fun e w'=>e=.returned (.bool v)∧w=w':=by
 have HTR:=Lib.hid TR
 have HD1:=Lib.hid D1
 have HDOT:=Lib.hid DOT
 clear TR D1 DOT
 cases hv with
 | zero h =>
  have h':(((n:Int))==0)=true:=by simp;omega
  clear h
  go_enter Tryz.func65,Tryz.ntmps65
  go_wp2_with (first
   | (go_at_call 117;refine(HTR.out _).mono ?_;rintro e w' ⟨rfl,rfl⟩)
   | (go_at_call 118;refine(HDOT.out _).mono ?_;rintro e w' ⟨rfl,rfl⟩)
   | (go_at_call 112;((with_reducible refine(HD1.out _).mono ?_);rintro e w' ⟨rfl,rfl⟩)))
  go_ret
  exact⟨rfl,rfl⟩
 | done h h1 =>
  have h':(((n:Int))==0)=false:=by simp;omega
  have e1:=empty_toList s2 h1
  clear h h1
  go_enter Tryz.func65,Tryz.ntmps65
  go_wp2_with (first
   | (go_at_call 117;refine(HTR.out _).mono ?_;rintro e w' ⟨rfl,rfl⟩)
   | (go_at_call 118;refine(HDOT.out _).mono ?_;rintro e w' ⟨rfl,rfl⟩)
   | (go_at_call 112;((with_reducible refine(HD1.out _).mono ?_);rintro e w' ⟨rfl,rfl⟩)))
  go_ret
  exact⟨rfl,rfl⟩
 | other h h1 h2 h3 =>
  have h':(((n:Int))==0)=false:=by simp;omega
  have e1:=full_toList s2 h1
  go_enter Tryz.func65,Tryz.ntmps65
  go_wp2_with (first
   | (go_at_call 117;refine(HTR.out _).mono ?_;rintro e w' ⟨rfl,rfl⟩)
   | (go_at_call 118;refine(HDOT.out _).mono ?_;rintro e w' ⟨rfl,rfl⟩)
   | (go_at_call 112;((with_reducible refine(HD1.out _).mono ?_);rintro e w' ⟨rfl,rfl⟩)))
  go_ret
  exact⟨rfl,rfl⟩
 | small h h1 h2 s4 z4 c4 v hv =>
  have h':(((n:Int))==0)=false:=by simp;omega
  have e1:=full_toList s2 h1
  cases hv with
  | none h =>
   have e2:=empty_toList s4 h
   go_enter Tryz.func65,Tryz.ntmps65
   go_wp2_with (first
    | (go_at_call 117;refine(HTR.out _).mono ?_;rintro e w' ⟨rfl,rfl⟩)
    | (go_at_call 118;refine(HDOT.out _).mono ?_;rintro e w' ⟨rfl,rfl⟩)
    | (go_at_call 112;((with_reducible refine(HD1.out _).mono ?_);rintro e w' ⟨rfl,rfl⟩)))
   go_ret
   exact⟨rfl,rfl⟩
  | bare h g1 g2 d hd =>
   have e2:=full_toList s4 h
   have D3:=fun w=>digits_at s4 d w (by unfold maxLen;omega) hd
   have HD3:=Lib.hid D3
   clear D3 hd
   go_enter Tryz.func65,Tryz.ntmps65
   go_wp2_with (first
    | (go_at_call 117;refine(HTR.out _).mono ?_;rintro e w' ⟨rfl,rfl⟩)
    | (go_at_call 118;refine(HDOT.out _).mono ?_;rintro e w' ⟨rfl,rfl⟩)
    | (go_at_call 112;((with_reducible refine(HD1.out _).mono ?_);rintro e w' ⟨rfl,rfl⟩))
    | (go_at_call 112;((with_reducible refine(HD3.out _).mono ?_);rintro e w' ⟨rfl,rfl⟩)))
   go_ret
   exact⟨rfl,rfl⟩
  | plus h g1 s5 h5 c5 g0 =>
   have e2:=full_toList s4 h
   have e3:=empty_toList s5 g0
   go_enter Tryz.func65,Tryz.ntmps65
   go_wp2_with (first
    | (go_at_call 117;refine(HTR.out _).mono ?_;rintro e w' ⟨rfl,rfl⟩)
    | (go_at_call 118;refine(HDOT.out _).mono ?_;rintro e w' ⟨rfl,rfl⟩)
    | (go_at_call 112;((with_reducible refine(HD1.out _).mono ?_);rintro e w' ⟨rfl,rfl⟩)))
   go_ret
   exact⟨rfl,rfl⟩
  | plusd h g1 s5 h5 c5 g0 d hd =>
   have e2:=full_toList s4 h
   have e3:=full_toList s5 g0
   have D3:=fun w=>digits_at s5 d w (by unfold maxLen;omega) hd
   have HD3:=Lib.hid D3
   clear D3 hd
   go_enter Tryz.func65,Tryz.ntmps65
   go_wp2_with (first
    | (go_at_call 117;refine(HTR.out _).mono ?_;rintro e w' ⟨rfl,rfl⟩)
    | (go_at_call 118;refine(HDOT.out _).mono ?_;rintro e w' ⟨rfl,rfl⟩)
    | (go_at_call 112;((with_reducible refine(HD1.out _).mono ?_);rintro e w' ⟨rfl,rfl⟩))
    | (go_at_call 112;((with_reducible refine(HD3.out _).mono ?_);rintro e w' ⟨rfl,rfl⟩)))
   go_ret
   exact⟨rfl,rfl⟩
  | minus h g1 g2 s5 h5 c5 g0 =>
   have e2:=full_toList s4 h
   have e3:=empty_toList s5 g0
   go_enter Tryz.func65,Tryz.ntmps65
   go_wp2_with (first
    | (go_at_call 117;refine(HTR.out _).mono ?_;rintro e w' ⟨rfl,rfl⟩)
    | (go_at_call 118;refine(HDOT.out _).mono ?_;rintro e w' ⟨rfl,rfl⟩)
    | (go_at_call 112;((with_reducible refine(HD1.out _).mono ?_);rintro e w' ⟨rfl,rfl⟩)))
   go_ret
   exact⟨rfl,rfl⟩
  | minusd h g1 g2 s5 h5 c5 g0 d hd =>
   have e2:=full_toList s4 h
   have e3:=full_toList s5 g0
   have D3:=fun w=>digits_at s5 d w (by unfold maxLen;omega) hd
   have HD3:=Lib.hid D3
   clear D3 hd
   go_enter Tryz.func65,Tryz.ntmps65
   go_wp2_with (first
    | (go_at_call 117;refine(HTR.out _).mono ?_;rintro e w' ⟨rfl,rfl⟩)
    | (go_at_call 118;refine(HDOT.out _).mono ?_;rintro e w' ⟨rfl,rfl⟩)
    | (go_at_call 112;((with_reducible refine(HD1.out _).mono ?_);rintro e w' ⟨rfl,rfl⟩))
    | (go_at_call 112;((with_reducible refine(HD3.out _).mono ?_);rintro e w' ⟨rfl,rfl⟩)))
   go_ret
   exact⟨rfl,rfl⟩
 | large h h1 h2 h3 s4 z4 c4 v hv =>
  have h':(((n:Int))==0)=false:=by simp;omega
  have e1:=full_toList s2 h1
  cases hv with
  | none h =>
   have e2:=empty_toList s4 h
   go_enter Tryz.func65,Tryz.ntmps65
   go_wp2_with (first
    | (go_at_call 117;refine(HTR.out _).mono ?_;rintro e w' ⟨rfl,rfl⟩)
    | (go_at_call 118;refine(HDOT.out _).mono ?_;rintro e w' ⟨rfl,rfl⟩)
    | (go_at_call 112;((with_reducible refine(HD1.out _).mono ?_);rintro e w' ⟨rfl,rfl⟩)))
   go_ret
   exact⟨rfl,rfl⟩
  | bare h g1 g2 d hd =>
   have e2:=full_toList s4 h
   have D3:=fun w=>digits_at s4 d w (by unfold maxLen;omega) hd
   have HD3:=Lib.hid D3
   clear D3 hd
   go_enter Tryz.func65,Tryz.ntmps65
   go_wp2_with (first
    | (go_at_call 117;refine(HTR.out _).mono ?_;rintro e w' ⟨rfl,rfl⟩)
    | (go_at_call 118;refine(HDOT.out _).mono ?_;rintro e w' ⟨rfl,rfl⟩)
    | (go_at_call 112;((with_reducible refine(HD1.out _).mono ?_);rintro e w' ⟨rfl,rfl⟩))
    | (go_at_call 112;((with_reducible refine(HD3.out _).mono ?_);rintro e w' ⟨rfl,rfl⟩)))
   go_ret
   exact⟨rfl,rfl⟩
  | plus h g1 s5 h5 c5 g0 =>
   have e2:=full_toList s4 h
   have e3:=empty_toList s5 g0
   go_enter Tryz.func65,Tryz.ntmps65
   go_wp2_with (first
    | (go_at_call 117;refine(HTR.out _).mono ?_;rintro e w' ⟨rfl,rfl⟩)
    | (go_at_call 118;refine(HDOT.out _).mono ?_;rintro e w' ⟨rfl,rfl⟩)
    | (go_at_call 112;((with_reducible refine(HD1.out _).mono ?_);rintro e w' ⟨rfl,rfl⟩)))
   go_ret
   exact⟨rfl,rfl⟩
  | plusd h g1 s5 h5 c5 g0 d hd =>
   have e2:=full_toList s4 h
   have e3:=full_toList s5 g0
   have D3:=fun w=>digits_at s5 d w (by unfold maxLen;omega) hd
   have HD3:=Lib.hid D3
   clear D3 hd
   go_enter Tryz.func65,Tryz.ntmps65
   go_wp2_with (first
    | (go_at_call 117;refine(HTR.out _).mono ?_;rintro e w' ⟨rfl,rfl⟩)
    | (go_at_call 118;refine(HDOT.out _).mono ?_;rintro e w' ⟨rfl,rfl⟩)
    | (go_at_call 112;((with_reducible refine(HD1.out _).mono ?_);rintro e w' ⟨rfl,rfl⟩))
    | (go_at_call 112;((with_reducible refine(HD3.out _).mono ?_);rintro e w' ⟨rfl,rfl⟩)))
   go_ret
   exact⟨rfl,rfl⟩
  | minus h g1 g2 s5 h5 c5 g0 =>
   have e2:=full_toList s4 h
   have e3:=empty_toList s5 g0
   go_enter Tryz.func65,Tryz.ntmps65
   go_wp2_with (first
    | (go_at_call 117;refine(HTR.out _).mono ?_;rintro e w' ⟨rfl,rfl⟩)
    | (go_at_call 118;refine(HDOT.out _).mono ?_;rintro e w' ⟨rfl,rfl⟩)
    | (go_at_call 112;((with_reducible refine(HD1.out _).mono ?_);rintro e w' ⟨rfl,rfl⟩)))
   go_ret
   exact⟨rfl,rfl⟩
  | minusd h g1 g2 s5 h5 c5 g0 d hd =>
   have e2:=full_toList s4 h
   have e3:=full_toList s5 g0
   have D3:=fun w=>digits_at s5 d w (by unfold maxLen;omega) hd
   have HD3:=Lib.hid D3
   clear D3 hd
   go_enter Tryz.func65,Tryz.ntmps65
   go_wp2_with (first
    | (go_at_call 117;refine(HTR.out _).mono ?_;rintro e w' ⟨rfl,rfl⟩)
    | (go_at_call 118;refine(HDOT.out _).mono ?_;rintro e w' ⟨rfl,rfl⟩)
    | (go_at_call 112;((with_reducible refine(HD1.out _).mono ?_);rintro e w' ⟨rfl,rfl⟩))
    | (go_at_call 112;((with_reducible refine(HD3.out _).mono ?_);rintro e w' ⟨rfl,rfl⟩)))
   go_ret
   exact⟨rfl,rfl⟩
theorem numeral_dot (s s1 s2 s2' s3:ByteArray)(n k:Nat)(v:Bool)(w:World)(h40:s.size≤40)(hz1:s1.size≤40)(_hz2:s2.size≤s1.size)(hz3:s3.size≤s1.size)
  (TR:∀ w,Calls Tryz.prog 117 #[.string s,.string { data:=#[45] }] w fun e w'=>e=.returned (.string s1)∧w=w')
  (D1:∀ w,Calls Tryz.prog 112 #[.string s1] w fun e w'=>e=.returned (.int .i64 n)∧w=w')
  (c2:∀ w,(Instr.slice 9 (.string s1) (some (.int .i64 n)) none none).run Tryz.prog w=.ok (.string s2) w)
  (DOT:∀ w,Calls Tryz.prog 118 #[.string s2,.string { data:=#[46] }] w fun e w'=>e=.returned (.bool true)∧w=w')
  (c2':∀ w,(Instr.slice 9 (.string s2) (some (.int .i64 1)) none none).run Tryz.prog w=.ok (.string s2') w)
  (D2:∀ w,Calls Tryz.prog 112 #[.string s2'] w fun e w'=>e=.returned (.int .i64 k)∧w=w')
  (hk0:((k:Int)==0)=false)
  (c3:∀ w,(Instr.slice 9 (.string s2) (some (.int .i64 (1+(k:Int)))) none none).run Tryz.prog w=.ok (.string s3) w)
  (_hns:n≤s1.size) (hks:n+k≤s1.size) (hv:Num2 s3 (n+k) v) :
  Calls Tryz.prog 65 #[.string s] w fun e w'=>e=.returned (.bool v)∧w=w':=by
 have HTR:=Lib.hid TR
 have HD1:=Lib.hid D1
 have HD2:=Lib.hid D2
 have HDOT:=Lib.hid DOT
 clear TR D1 DOT D2
 cases hv with
 | zero h =>
  have h':(((n:Int)+(k:Int))==0)=true:=by simp;omega
  clear h
  go_enter Tryz.func65,Tryz.ntmps65
  go_wp2_with (first
   | (go_at_call 117;refine(HTR.out _).mono ?_;rintro e w' ⟨rfl,rfl⟩)
   | (go_at_call 118;refine(HDOT.out _).mono ?_;rintro e w' ⟨rfl,rfl⟩)
   | (go_at_call 112;((with_reducible refine(HD1.out _).mono ?_);rintro e w' ⟨rfl,rfl⟩))
   | (go_at_call 112;((with_reducible refine(HD2.out _).mono ?_);rintro e w' ⟨rfl,rfl⟩)))
  go_ret
  exact⟨rfl,rfl⟩
 | done h h1 =>
  have h':(((n:Int)+(k:Int))==0)=false:=by simp;omega
  have e1:=empty_toList s3 h1
  clear h h1
  go_enter Tryz.func65,Tryz.ntmps65
  go_wp2_with (first
   | (go_at_call 117;refine(HTR.out _).mono ?_;rintro e w' ⟨rfl,rfl⟩)
   | (go_at_call 118;refine(HDOT.out _).mono ?_;rintro e w' ⟨rfl,rfl⟩)
   | (go_at_call 112;((with_reducible refine(HD1.out _).mono ?_);rintro e w' ⟨rfl,rfl⟩))
   | (go_at_call 112;((with_reducible refine(HD2.out _).mono ?_);rintro e w' ⟨rfl,rfl⟩)))
  go_ret
  exact⟨rfl,rfl⟩
 | other h h1 h2 h3 =>
  have h':(((n:Int)+(k:Int))==0)=false:=by simp;omega
  have e1:=full_toList s3 h1
  go_enter Tryz.func65,Tryz.ntmps65
  go_wp2_with (first
   | (go_at_call 117;refine(HTR.out _).mono ?_;rintro e w' ⟨rfl,rfl⟩)
   | (go_at_call 118;refine(HDOT.out _).mono ?_;rintro e w' ⟨rfl,rfl⟩)
   | (go_at_call 112;((with_reducible refine(HD1.out _).mono ?_);rintro e w' ⟨rfl,rfl⟩))
   | (go_at_call 112;((with_reducible refine(HD2.out _).mono ?_);rintro e w' ⟨rfl,rfl⟩)))
  go_ret
  exact⟨rfl,rfl⟩
 | small h h1 h2 s4 z4 c4 v hv =>
  have h':(((n:Int)+(k:Int))==0)=false:=by simp;omega
  have e1:=full_toList s3 h1
  cases hv with
  | none h =>
   have e2:=empty_toList s4 h
   go_enter Tryz.func65,Tryz.ntmps65
   go_wp2_with (first
    | (go_at_call 117;refine(HTR.out _).mono ?_;rintro e w' ⟨rfl,rfl⟩)
    | (go_at_call 118;refine(HDOT.out _).mono ?_;rintro e w' ⟨rfl,rfl⟩)
    | (go_at_call 112;((with_reducible refine(HD1.out _).mono ?_);rintro e w' ⟨rfl,rfl⟩))
    | (go_at_call 112;((with_reducible refine(HD2.out _).mono ?_);rintro e w' ⟨rfl,rfl⟩)))
   go_ret
   exact⟨rfl,rfl⟩
  | bare h g1 g2 d hd =>
   have e2:=full_toList s4 h
   have D3:=fun w=>digits_at s4 d w (by unfold maxLen;omega) hd
   have HD3:=Lib.hid D3
   clear D3 hd
   go_enter Tryz.func65,Tryz.ntmps65
   go_wp2_with (first
    | (go_at_call 117;refine(HTR.out _).mono ?_;rintro e w' ⟨rfl,rfl⟩)
    | (go_at_call 118;refine(HDOT.out _).mono ?_;rintro e w' ⟨rfl,rfl⟩)
    | (go_at_call 112;((with_reducible refine(HD1.out _).mono ?_);rintro e w' ⟨rfl,rfl⟩))
    | (go_at_call 112;((with_reducible refine(HD2.out _).mono ?_);rintro e w' ⟨rfl,rfl⟩))
    | (go_at_call 112;((with_reducible refine(HD3.out _).mono ?_);rintro e w' ⟨rfl,rfl⟩)))
   go_ret
   exact⟨rfl,rfl⟩
  | plus h g1 s5 h5 c5 g0 =>
   have e2:=full_toList s4 h
   have e3:=empty_toList s5 g0
   go_enter Tryz.func65,Tryz.ntmps65
   go_wp2_with (first
    | (go_at_call 117;refine(HTR.out _).mono ?_;rintro e w' ⟨rfl,rfl⟩)
    | (go_at_call 118;refine(HDOT.out _).mono ?_;rintro e w' ⟨rfl,rfl⟩)
    | (go_at_call 112;((with_reducible refine(HD1.out _).mono ?_);rintro e w' ⟨rfl,rfl⟩))
    | (go_at_call 112;((with_reducible refine(HD2.out _).mono ?_);rintro e w' ⟨rfl,rfl⟩)))
   go_ret
   exact⟨rfl,rfl⟩
  | plusd h g1 s5 h5 c5 g0 d hd =>
   have e2:=full_toList s4 h
   have e3:=full_toList s5 g0
   have D3:=fun w=>digits_at s5 d w (by unfold maxLen;omega) hd
   have HD3:=Lib.hid D3
   clear D3 hd
   go_enter Tryz.func65,Tryz.ntmps65
   go_wp2_with (first
    | (go_at_call 117;refine(HTR.out _).mono ?_;rintro e w' ⟨rfl,rfl⟩)
    | (go_at_call 118;refine(HDOT.out _).mono ?_;rintro e w' ⟨rfl,rfl⟩)
    | (go_at_call 112;((with_reducible refine(HD1.out _).mono ?_);rintro e w' ⟨rfl,rfl⟩))
    | (go_at_call 112;((with_reducible refine(HD2.out _).mono ?_);rintro e w' ⟨rfl,rfl⟩))
    | (go_at_call 112;((with_reducible refine(HD3.out _).mono ?_);rintro e w' ⟨rfl,rfl⟩)))
   go_ret
   exact⟨rfl,rfl⟩
  | minus h g1 g2 s5 h5 c5 g0 =>
   have e2:=full_toList s4 h
   have e3:=empty_toList s5 g0
   go_enter Tryz.func65,Tryz.ntmps65
   go_wp2_with (first
    | (go_at_call 117;refine(HTR.out _).mono ?_;rintro e w' ⟨rfl,rfl⟩)
    | (go_at_call 118;refine(HDOT.out _).mono ?_;rintro e w' ⟨rfl,rfl⟩)
    | (go_at_call 112;((with_reducible refine(HD1.out _).mono ?_);rintro e w' ⟨rfl,rfl⟩))
    | (go_at_call 112;((with_reducible refine(HD2.out _).mono ?_);rintro e w' ⟨rfl,rfl⟩)))
   go_ret
   exact⟨rfl,rfl⟩
  | minusd h g1 g2 s5 h5 c5 g0 d hd =>
   have e2:=full_toList s4 h
   have e3:=full_toList s5 g0
   have D3:=fun w=>digits_at s5 d w (by unfold maxLen;omega) hd
   have HD3:=Lib.hid D3
   clear D3 hd
   go_enter Tryz.func65,Tryz.ntmps65
   go_wp2_with (first
    | (go_at_call 117;refine(HTR.out _).mono ?_;rintro e w' ⟨rfl,rfl⟩)
    | (go_at_call 118;refine(HDOT.out _).mono ?_;rintro e w' ⟨rfl,rfl⟩)
    | (go_at_call 112;((with_reducible refine(HD1.out _).mono ?_);rintro e w' ⟨rfl,rfl⟩))
    | (go_at_call 112;((with_reducible refine(HD2.out _).mono ?_);rintro e w' ⟨rfl,rfl⟩))
    | (go_at_call 112;((with_reducible refine(HD3.out _).mono ?_);rintro e w' ⟨rfl,rfl⟩)))
   go_ret
   exact⟨rfl,rfl⟩
 | large h h1 h2 h3 s4 z4 c4 v hv =>
  have h':(((n:Int)+(k:Int))==0)=false:=by simp;omega
  have e1:=full_toList s3 h1
  cases hv with
  | none h =>
   have e2:=empty_toList s4 h
   go_enter Tryz.func65,Tryz.ntmps65
   go_wp2_with (first
    | (go_at_call 117;refine(HTR.out _).mono ?_;rintro e w' ⟨rfl,rfl⟩)
    | (go_at_call 118;refine(HDOT.out _).mono ?_;rintro e w' ⟨rfl,rfl⟩)
    | (go_at_call 112;((with_reducible refine(HD1.out _).mono ?_);rintro e w' ⟨rfl,rfl⟩))
    | (go_at_call 112;((with_reducible refine(HD2.out _).mono ?_);rintro e w' ⟨rfl,rfl⟩)))
   go_ret
   exact⟨rfl,rfl⟩
  | bare h g1 g2 d hd =>
   have e2:=full_toList s4 h
   have D3:=fun w=>digits_at s4 d w (by unfold maxLen;omega) hd
   have HD3:=Lib.hid D3
   clear D3 hd
   go_enter Tryz.func65,Tryz.ntmps65
   go_wp2_with (first
    | (go_at_call 117;refine(HTR.out _).mono ?_;rintro e w' ⟨rfl,rfl⟩)
    | (go_at_call 118;refine(HDOT.out _).mono ?_;rintro e w' ⟨rfl,rfl⟩)
    | (go_at_call 112;((with_reducible refine(HD1.out _).mono ?_);rintro e w' ⟨rfl,rfl⟩))
    | (go_at_call 112;((with_reducible refine(HD2.out _).mono ?_);rintro e w' ⟨rfl,rfl⟩))
    | (go_at_call 112;((with_reducible refine(HD3.out _).mono ?_);rintro e w' ⟨rfl,rfl⟩)))
   go_ret
   exact⟨rfl,rfl⟩
  | plus h g1 s5 h5 c5 g0 =>
   have e2:=full_toList s4 h
   have e3:=empty_toList s5 g0
   go_enter Tryz.func65,Tryz.ntmps65
   go_wp2_with (first
    | (go_at_call 117;refine(HTR.out _).mono ?_;rintro e w' ⟨rfl,rfl⟩)
    | (go_at_call 118;refine(HDOT.out _).mono ?_;rintro e w' ⟨rfl,rfl⟩)
    | (go_at_call 112;((with_reducible refine(HD1.out _).mono ?_);rintro e w' ⟨rfl,rfl⟩))
    | (go_at_call 112;((with_reducible refine(HD2.out _).mono ?_);rintro e w' ⟨rfl,rfl⟩)))
   go_ret
   exact⟨rfl,rfl⟩
  | plusd h g1 s5 h5 c5 g0 d hd =>
   have e2:=full_toList s4 h
   have e3:=full_toList s5 g0
   have D3:=fun w=>digits_at s5 d w (by unfold maxLen;omega) hd
   have HD3:=Lib.hid D3
   clear D3 hd
   go_enter Tryz.func65,Tryz.ntmps65
   go_wp2_with (first
    | (go_at_call 117;refine(HTR.out _).mono ?_;rintro e w' ⟨rfl,rfl⟩)
    | (go_at_call 118;refine(HDOT.out _).mono ?_;rintro e w' ⟨rfl,rfl⟩)
    | (go_at_call 112;((with_reducible refine(HD1.out _).mono ?_);rintro e w' ⟨rfl,rfl⟩))
    | (go_at_call 112;((with_reducible refine(HD2.out _).mono ?_);rintro e w' ⟨rfl,rfl⟩))
    | (go_at_call 112;((with_reducible refine(HD3.out _).mono ?_);rintro e w' ⟨rfl,rfl⟩)))
   go_ret
   exact⟨rfl,rfl⟩
  | minus h g1 g2 s5 h5 c5 g0 =>
   have e2:=full_toList s4 h
   have e3:=empty_toList s5 g0
   go_enter Tryz.func65,Tryz.ntmps65
   go_wp2_with (first
    | (go_at_call 117;refine(HTR.out _).mono ?_;rintro e w' ⟨rfl,rfl⟩)
    | (go_at_call 118;refine(HDOT.out _).mono ?_;rintro e w' ⟨rfl,rfl⟩)
    | (go_at_call 112;((with_reducible refine(HD1.out _).mono ?_);rintro e w' ⟨rfl,rfl⟩))
    | (go_at_call 112;((with_reducible refine(HD2.out _).mono ?_);rintro e w' ⟨rfl,rfl⟩)))
   go_ret
   exact⟨rfl,rfl⟩
  | minusd h g1 g2 s5 h5 c5 g0 d hd =>
   have e2:=full_toList s4 h
   have e3:=full_toList s5 g0
   have D3:=fun w=>digits_at s5 d w (by unfold maxLen;omega) hd
   have HD3:=Lib.hid D3
   clear D3 hd
   go_enter Tryz.func65,Tryz.ntmps65
   go_wp2_with (first
    | (go_at_call 117;refine(HTR.out _).mono ?_;rintro e w' ⟨rfl,rfl⟩)
    | (go_at_call 118;refine(HDOT.out _).mono ?_;rintro e w' ⟨rfl,rfl⟩)
    | (go_at_call 112;((with_reducible refine(HD1.out _).mono ?_);rintro e w' ⟨rfl,rfl⟩))
    | (go_at_call 112;((with_reducible refine(HD2.out _).mono ?_);rintro e w' ⟨rfl,rfl⟩))
    | (go_at_call 112;((with_reducible refine(HD3.out _).mono ?_);rintro e w' ⟨rfl,rfl⟩)))
   go_ret
   exact⟨rfl,rfl⟩
theorem numeral_nodig (s s1 s2 s2':ByteArray)(n:Nat)(w:World)(h40:s.size≤40)(_hz1:s1.size≤40)
  (TR:∀ w,Calls Tryz.prog 117 #[.string s,.string { data:=#[45] }] w fun e w'=>e=.returned (.string s1)∧w=w')
  (D1:∀ w,Calls Tryz.prog 112 #[.string s1] w fun e w'=>e=.returned (.int .i64 n)∧w=w')
  (c2:∀ w,(Instr.slice 9 (.string s1) (some (.int .i64 n)) none none).run Tryz.prog w=.ok (.string s2) w)
  (DOT:∀ w,Calls Tryz.prog 118 #[.string s2,.string { data:=#[46] }] w fun e w'=>e=.returned (.bool true)∧w=w')
  (c2':∀ w,(Instr.slice 9 (.string s2) (some (.int .i64 1)) none none).run Tryz.prog w=.ok (.string s2') w)
  (D2:∀ w,Calls Tryz.prog 112 #[.string s2'] w fun e w'=>e=.returned (.int .i64 (0:Nat))∧w=w') :
  Calls Tryz.prog 65 #[.string s] w fun e w'=>e=.returned (.bool false)∧w=w':=by
 have HTR:=Lib.hid TR
 have HD1:=Lib.hid D1
 have HD2:=Lib.hid D2
 have HDOT:=Lib.hid DOT
 clear TR D1 DOT D2
 go_enter Tryz.func65,Tryz.ntmps65
 go_wp2_with (first
  | (go_at_call 117;refine(HTR.out _).mono ?_;rintro e w' ⟨rfl,rfl⟩)
  | (go_at_call 118;refine(HDOT.out _).mono ?_;rintro e w' ⟨rfl,rfl⟩)
  | (go_at_call 112;((with_reducible refine(HD1.out _).mono ?_);rintro e w' ⟨rfl,rfl⟩))
  | (go_at_call 112;((with_reducible refine(HD2.out _).mono ?_);rintro e w' ⟨rfl,rfl⟩)))
 go_ret
 exact⟨rfl,rfl⟩
theorem numeral_any (s:ByteArray)(w:World)(hs:s.size≤maxLen) :
  Calls Tryz.prog 65 #[.string s] w fun e w'=>e=.returned (.bool (numB s.data.toList))∧w=w':=by
 by_cases h40:40<s.size
 ·exact numeral_long s w hs h40
 ·obtain⟨s1,hs1⟩:∃ s1:ByteArray,s1.data.toList=if s.data.toList.head?=some 45 then s.data.toList.drop 1 else s.data.toList:=⟨⟨(if s.data.toList.head?=some 45 then s.data.toList.drop 1 else s.data.toList).toArray⟩,rfl⟩
  have hz1:s1.size≤40:=by
   rw[size_list,hs1];rw[size_list] at h40
   split
   ·rw[List.length_drop];omega
   ·omega
  have hv:numB s.data.toList=num1 s1.data.toList:=by
   unfold numB
   rw[if_neg (by rw[← size_list];omega),hs1]
  rw[hv]
  have TR:=fun w=>trim_at s s1 w hs1
  obtain⟨n,hn⟩:∃ n,n=digs s1.data.toList:=⟨_,rfl⟩
  have hns:n≤s1.size:=by rw[hn,size_list];exact digs_le _
  have D1:=fun w=>digits_at s1 n w (by unfold maxLen;omega) hn.symm
  obtain⟨s2,h2,hz2,c2⟩:=cut_from s1 n hns
  by_cases hd:s2.data.toList.head?=some 46
  ·obtain⟨l2,_⟩:=head_size s2 46 hd
   have DOT:=fun w=>dot_at s2 true w (by simp[hd])
   obtain⟨s2',h2',hz2',c2'⟩:=cut_from s2 1 l2
   obtain⟨k,hk⟩:∃ k,k=digs s2'.data.toList:=⟨_,rfl⟩
   have hks:k≤s2'.size:=by rw[hk,size_list];exact digs_le _
   have D2:=fun w=>digits_at s2' k w (by unfold maxLen;omega) hk.symm
   obtain⟨s3,h3,hz3,c3⟩:=cut_from s2 (1+k) (by omega)
   have hv:num1 s1.data.toList=if k=0 then false else num2 (n+k) s3.data.toList:=by
    unfold num1
    rw[← hn,← h2,if_pos hd,← h2',← hk,← h3]
   rw[hv]
   by_cases hk0:k=0
   ·rw[if_pos hk0]
    rw[hk0] at D2
    exact numeral_nodig s s1 s2 s2' n w (by omega) hz1 TR D1 c2 DOT c2' D2
   ·rw[if_neg hk0]
    have e:((1+k:Nat):Int)=1+(k:Int):=by omega
    rw[e] at c3
    exact numeral_dot s s1 s2 s2' s3 n k _ w (by omega) hz1 (by omega) (by omega) TR D1 c2 DOT c2' D2 (by simp;omega) c3 hns (by omega) (num2_intro s3 (n+k) (by omega) (by omega))
  ·have DOT:=fun w=>dot_at s2 false w (by simp[hd])
   have hv:num1 s1.data.toList=num2 n s2.data.toList:=by
    unfold num1
    rw[← hn,← h2,if_neg hd]
   rw[hv]
   exact numeral_bare s s1 s2 n _ w (by omega) hz1 (by omega) TR D1 c2 DOT hns (num2_intro s2 n (by omega) (by omega))
end Go.Proofs.YtcfgbdhpcboikaaGreatDoor
