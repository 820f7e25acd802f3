/-
  Contracts of the functions that the law reaches: comp.Same and conciliatorref06.Same: two components are compared. comp.bare, by kinds. val.plain and val.rising. val.Sound: of a value in memory it is the plain function's answer. comp.Sound. conciliatorref06.Sound, by kinds. conciliatorref06.Sound, by kinds. conciliatorref06.Sound, by kinds. conciliatorref06.Sound. conciliatorref06.Check. conciliatorref06.fields: what stands in memory while it runs.
-/
import Derived.Test.YtgcfhkceejcliaaGreatDoorEnc8
import Derived.Handy
namespace Go.Proofs.YtgcfhkceejcliaaGreatDoor
open Go.RowKit
theorem Cm.ne {a b:Cm} (h:a.k≠b.k∨a.key.toList≠b.key.toList∨a.i≠b.i∨a.j≠b.j∨a.n≠b.n∨a.s.toList≠b.s.toList∨eqv a.v b.v=false∨eqB a.path b.path=false):eqB a b=false:=eqB_no fun e=>by
  subst e
  rcases h with h|h|h|h|h|h|h|h
  · exact h rfl
  · exact h rfl
  · exact h rfl
  · exact h rfl
  · exact h rfl
  · exact h rfl
  · exact ne_of_eqv h rfl
  · exact ne_of_eqB h rfl
theorem Cm.same {a b:Cm} (h1:a.k=b.k) (h2:a.key.toList=b.key.toList) (h3:a.i=b.i) (h4:a.j=b.j) (h5:a.n=b.n) (h6:a.s.toList=b.s.toList) (h7:eqv a.v b.v=true) (h8:eqB a.path b.path=true):eqB a b=true:=eqB_yes (by
  have h7:=eq_of_eqv h7;have h8:=eq_of_eqB h8;have h2:=bytes_ext h2;have h6:=bytes_ext h6
  cases a;cases b;simp_all)
theorem _root_.Go.RowKit.Below.cellA {w w1:World} {cs ds:Array Value} {t u:TypeId} (hb:Below ((w.alloc (.cells cs t)).alloc (.cells ds u)).heap.size ((w.alloc (.cells cs t)).alloc (.cells ds u)) w1) (j:Nat) (v:Value) (h:cs[j]? =some v):w1.cell? ⟨w.heap.size,j,none⟩=some v:=
  keep_cell hb (keep_cell ((Below.refl _ _).alloc (Nat.le_refl _) _) (cells_new w cs t j v h) (by simp)) (by simp;omega)
theorem _root_.Go.RowKit.Below.cellB {w w1:World} {cs ds:Array Value} {t u:TypeId} (hb:Below ((w.alloc (.cells cs t)).alloc (.cells ds u)).heap.size ((w.alloc (.cells cs t)).alloc (.cells ds u)) w1) (j:Nat) (v:Value) (h:ds[j]? =some v):w1.cell? ⟨w.heap.size+1,j,none⟩=some v:=
  keep_cell hb (by have:=cells_new (w.alloc (.cells cs t)) ds u j v h;rwa [World.size_alloc] at this) (by simp)
set_option maxHeartbeats 4000000 in
set_option maxRecDepth 100000 in
theorem compSame_any (x y:Cm) (w:World) (c d:CC) (hx:IsComp w w.heap.size x c) (hy:IsComp w w.heap.size y d):
    Calls Tryz.prog 58 #[.agg #[.int .u8 c.k, .slice c.pa c.pl c.pc, .string c.key, .int .i64 c.i, .int .i64 c.j, .int .i64 c.n, .int .u8 c.v.k, .int .i64 c.v.n, .string c.v.s, .slice c.v.la c.v.ll c.v.lc, .slice c.v.oa c.v.ol c.v.oc, .string c.s], .agg #[.int .u8 d.k, .slice d.pa d.pl d.pc, .string d.key, .int .i64 d.i, .int .i64 d.j, .int .i64 d.n, .int .u8 d.v.k, .int .i64 d.v.n, .string d.v.s, .slice d.v.la d.v.ll d.v.lc, .slice d.v.oa d.v.ol d.v.oc, .string d.s]] w fun e w'=>e= .returned (.bool (eqB x y))∧Below w.heap.size w w':=by
  cases hx with
  |mk c p v hb hp hv=>
  cases hy with
  |mk d q u hb' hq hu=>
  have HV:Hid (∀W,Below w.heap.size w W→Calls Tryz.prog 29 #[.agg #[.int .u8 c.v.k, .int .i64 c.v.n, .string c.v.s, .slice c.v.la c.v.ll c.v.lc, .slice c.v.oa c.v.ol c.v.oc], .agg #[.int .u8 d.v.k, .int .i64 d.v.n, .string d.v.s, .slice d.v.la d.v.ll d.v.lc, .slice d.v.oa d.v.ol d.v.oc]] W fun e w'=>e= .returned (.bool (eqv v u))∧Below W.heap.size W w'):=fun W hW=>valSame_any v u W c.v d.v (hv.later_ hW) (hu.later_ hW)
  have HP:Hid (∀W,Below w.heap.size w W→Calls Tryz.prog 90 #[.slice c.pa c.pl c.pc, .slice d.pa d.pl d.pc] W fun e w'=>e= .returned (.bool (eqB p q))∧Below W.heap.size W w'):=fun W hW=>equalSteps_any p q W _ _ _ _ _ _ (hp.later_ hW) (hq.later_ hW)
  obtain ⟨R,hR⟩:∃R,eqB (Cm.mk c.k p c.key c.i c.j c.n v c.s) (Cm.mk d.k q d.key d.i d.j d.n u d.s)=R:=⟨_,rfl⟩
  rw [hR]
  have HR:=Lib.hid hR
  clear hR hb hp hv hb' hq hu
  by_cases e0:c.k=d.k
  case neg=>
    have f0:(c.k==d.k)=false:=by simp [e0]
    have H0:=Lib.hid e0
    clear e0
    go_enter Tryz.func58,Tryz.ntmps58
    go_wp2_with fail
    go_ret
    exact ⟨ret_bool (by rw [←HR.out];exact (Cm.ne (Or.inl H0.out)).symm),((Below.refl _ _).alloc (Nat.le_refl _) _).alloc (by simp) _⟩
  have f0:(c.k==d.k)=true:=by simp [e0]
  have H0:=Lib.hid e0
  clear e0
  by_cases e1:c.key.toList=d.key.toList
  case neg=>
    have f1:(c.key.toList==d.key.toList)=false:=by simp [e1]
    have H1:=Lib.hid e1
    clear e1
    go_enter Tryz.func58,Tryz.ntmps58
    go_wp2_with fail
    go_ret
    exact ⟨ret_bool (by rw [←HR.out];exact (Cm.ne (Or.inr<| .inl H1.out)).symm),((Below.refl _ _).alloc (Nat.le_refl _) _).alloc (by simp) _⟩
  have f1:(c.key.toList==d.key.toList)=true:=by simp [e1]
  have H1:=Lib.hid e1
  clear e1
  by_cases e2:c.i=d.i
  case neg=>
    have f2:(c.i==d.i)=false:=by simp [e2]
    have H2:=Lib.hid e2
    clear e2
    go_enter Tryz.func58,Tryz.ntmps58
    go_wp2_with fail
    go_ret
    exact ⟨ret_bool (by rw [←HR.out];exact (Cm.ne (Or.inr<| .inr<| .inl H2.out)).symm),((Below.refl _ _).alloc (Nat.le_refl _) _).alloc (by simp) _⟩
  have f2:(c.i==d.i)=true:=by simp [e2]
  have H2:=Lib.hid e2
  clear e2
  by_cases e3:c.j=d.j
  case neg=>
    have f3:(c.j==d.j)=false:=by simp [e3]
    have H3:=Lib.hid e3
    clear e3
    go_enter Tryz.func58,Tryz.ntmps58
    go_wp2_with fail
    go_ret
    exact ⟨ret_bool (by rw [←HR.out];exact (Cm.ne (Or.inr<| .inr<| .inr<| .inl H3.out)).symm),((Below.refl _ _).alloc (Nat.le_refl _) _).alloc (by simp) _⟩
  have f3:(c.j==d.j)=true:=by simp [e3]
  have H3:=Lib.hid e3
  clear e3
  by_cases e4:c.n=d.n
  case neg=>
    have f4:(c.n==d.n)=false:=by simp [e4]
    have H4:=Lib.hid e4
    clear e4
    go_enter Tryz.func58,Tryz.ntmps58
    go_wp2_with fail
    go_ret
    exact ⟨ret_bool (by rw [←HR.out];exact (Cm.ne (Or.inr<| .inr<| .inr<| .inr<| .inl H4.out)).symm),((Below.refl _ _).alloc (Nat.le_refl _) _).alloc (by simp) _⟩
  have f4:(c.n==d.n)=true:=by simp [e4]
  have H4:=Lib.hid e4
  clear e4
  by_cases e5:c.s.toList=d.s.toList
  case neg=>
    have f5:(c.s.toList==d.s.toList)=false:=by simp [e5]
    have H5:=Lib.hid e5
    clear e5
    go_enter Tryz.func58,Tryz.ntmps58
    go_wp2_with fail
    go_ret
    exact ⟨ret_bool (by rw [←HR.out];exact (Cm.ne (Or.inr<| .inr<| .inr<| .inr<| .inr<| .inl H5.out)).symm),((Below.refl _ _).alloc (Nat.le_refl _) _).alloc (by simp) _⟩
  have f5:(c.s.toList==d.s.toList)=true:=by simp [e5]
  have H5:=Lib.hid e5
  clear e5
  cases ev:eqv v u with
  | false=>
    have EV:=Lib.hid ev
    rw [ev] at HV
    clear ev
    go_enter Tryz.func58,Tryz.ntmps58
    go_wp2_with (first|(go_at_call 29;refine (HV.out _ (((Below.refl _ _).alloc (Nat.le_refl _) _).alloc (by simp) _)).mono ?_;rintro e w1 ⟨rfl,hb1⟩;have q1:=hb1.cellA 1 _ rfl;have q2:=hb1.cellB 1 _ rfl)|(go_at_call 90;refine (HP.out _ hb1.two).mono ?_;rintro e w2 ⟨rfl,hb2⟩))
    go_ret
    exact ⟨ret_bool (by rw [←HR.out];exact (Cm.ne (Or.inr<| .inr<| .inr<| .inr<| .inr<| .inr<| .inl EV.out)).symm),hb1.two⟩
  | true=>
    have EV:=Lib.hid ev
    rw [ev] at HV
    clear ev
    cases eb:eqB p q with
    | false=>
      have HB:=Lib.hid eb
      rw [eb] at HP
      clear eb
      go_enter Tryz.func58,Tryz.ntmps58
      go_wp2_with (first|(go_at_call 29;refine (HV.out _ (((Below.refl _ _).alloc (Nat.le_refl _) _).alloc (by simp) _)).mono ?_;rintro e w1 ⟨rfl,hb1⟩;have q1:=hb1.cellA 1 _ rfl;have q2:=hb1.cellB 1 _ rfl)|(go_at_call 90;refine (HP.out _ hb1.two).mono ?_;rintro e w2 ⟨rfl,hb2⟩))
      go_ret
      exact ⟨ret_bool (by rw [←HR.out];exact (Cm.ne (Or.inr<| .inr<| .inr<| .inr<| .inr<| .inr<| .inr HB.out)).symm),hb1.two.on hb2 hb1.two.size⟩
    | true=>
      have HB:=Lib.hid eb
      rw [eb] at HP
      clear eb
      go_enter Tryz.func58,Tryz.ntmps58
      go_wp2_with (first|(go_at_call 29;refine (HV.out _ (((Below.refl _ _).alloc (Nat.le_refl _) _).alloc (by simp) _)).mono ?_;rintro e w1 ⟨rfl,hb1⟩;have q1:=hb1.cellA 1 _ rfl;have q2:=hb1.cellB 1 _ rfl)|(go_at_call 90;refine (HP.out _ hb1.two).mono ?_;rintro e w2 ⟨rfl,hb2⟩))
      go_ret
      exact ⟨ret_bool (by rw [←HR.out];exact (Cm.same H0.out H1.out H2.out H3.out H4.out H5.out EV.out HB.out).symm),hb1.two.on hb2 hb1.two.size⟩
end Go.Proofs.YtgcfhkceejcliaaGreatDoor
namespace Go.Proofs.YtgcfhkceejcliaaGreatDoor
open Go.RowKit
def kIs (k:Int):Bool:=decide (1≤k) && decide (k≤9)
def kKey (k:Int):Bool:=k==2||k==3
def kI (k:Int):Bool:=decide (4≤k) && decide (k≤9)
def kJ (k:Int):Bool:=k==7
def kN (k:Int):Bool:=k==1||k==9
def kV (k:Int):Bool:=k==2||k==4||k==6
def kS (k:Int):Bool:=k==8
def VC.none:VC:=⟨0,0, .empty, .none,0,0, .none,0,0⟩
def CC.bare (c:CC):CC:=⟨c.k,c.pa,c.pl,c.pc,if kKey c.k then .empty else c.key,if kI c.k then 0 else c.i,if kJ c.k then 0 else c.j,if kN c.k then 0 else c.n,if kV c.k then VC.none else c.v,if kS c.k then .empty else c.s⟩
def Cm.bare (x:Cm):Cm:=⟨x.k,x.path,if kKey x.k then .empty else x.key,if kI x.k then 0 else x.i,if kJ x.k then 0 else x.j,if kN x.k then 0 else x.n,if kV x.k then V.none else x.v,if kS x.k then .empty else x.s⟩
theorem IsComp.bare {w:World} {B:Nat} {x:Cm} {c:CC} (h:IsComp w B x c):IsComp w B x.bare c.bare:=by
  cases h with
  |mk c p v hb hp hv=>
  have hv2:IsVal w B (if kV c.k then V.none else v) (if kV c.k then VC.none else c.v):=by
    split
    · exact isVal_none w B
    · exact hv
  have hb2:c.bare.Bnd:=by
    have h1:=hb.i0;have h2:=hb.i1;have h3:=hb.j0;have h4:=hb.j1;have h5:=hb.n0;have h6:=hb.n1;have h7:=hb.key1;have h8:=hb.s1
    refine ⟨hb.k0,hb.k1, ?_, ?_, ?_, ?_, ?_, ?_, ?_, ?_⟩<;>(simp only [CC.bare];split<;>first|assumption|decide)
  exact .mk c.bare p _ hb2 hp hv2
set_option maxHeartbeats 4000000 in
set_option maxRecDepth 100000 in
theorem bare_any (c:CC) (w:World) (hb:c.Bnd):
    Calls Tryz.prog 57 #[.agg #[.int .u8 c.k, .slice c.pa c.pl c.pc, .string c.key, .int .i64 c.i, .int .i64 c.j, .int .i64 c.n, .int .u8 c.v.k, .int .i64 c.v.n, .string c.v.s, .slice c.v.la c.v.ll c.v.lc, .slice c.v.oa c.v.ol c.v.oc, .string c.s]] w fun e w'=>(∃d:CC,e= .returned (.tuple #[.agg #[.int .u8 d.k, .slice d.pa d.pl d.pc, .string d.key, .int .i64 d.i, .int .i64 d.j, .int .i64 d.n, .int .u8 d.v.k, .int .i64 d.v.n, .string d.v.s, .slice d.v.la d.v.ll d.v.lc, .slice d.v.oa d.v.ol d.v.oc, .string d.s], .bool (kIs c.k)])∧Hid (d=c.bare))∧Below w.heap.size w w':=by
  have hk0:=hb.k0;have hk1:=hb.k1
  clear hb
  obtain ⟨k,pa,pl,pc,key,i,j,n,v,s⟩:=c
  dsimp only at hk0 hk1 ⊢
  by_cases e1:k=1
  case pos=>
    subst e1
    go_enter Tryz.func57,Tryz.ntmps57
    go_wp2_with fail
    go_returns
    exact ⟨⟨CC.bare ⟨1,pa,pl,pc,key,i,j,n,v,s⟩,rfl,rfl⟩,by go_grown⟩
  have f1:(k==1)=false:=by simp [e1]
  by_cases e2:k=2
  case pos=>
    subst e2
    go_enter Tryz.func57,Tryz.ntmps57
    go_wp2_with fail
    go_returns
    exact ⟨⟨CC.bare ⟨2,pa,pl,pc,key,i,j,n,v,s⟩,rfl,rfl⟩,by go_grown⟩
  have f2:(k==2)=false:=by simp [e2]
  by_cases e3:k=3
  case pos=>
    subst e3
    go_enter Tryz.func57,Tryz.ntmps57
    go_wp2_with fail
    go_returns
    exact ⟨⟨CC.bare ⟨3,pa,pl,pc,key,i,j,n,v,s⟩,rfl,rfl⟩,by go_grown⟩
  have f3:(k==3)=false:=by simp [e3]
  by_cases e4:k=4
  case pos=>
    subst e4
    go_enter Tryz.func57,Tryz.ntmps57
    go_wp2_with fail
    go_returns
    exact ⟨⟨CC.bare ⟨4,pa,pl,pc,key,i,j,n,v,s⟩,rfl,rfl⟩,by go_grown⟩
  have f4:(k==4)=false:=by simp [e4]
  by_cases e5:k=5
  case pos=>
    subst e5
    go_enter Tryz.func57,Tryz.ntmps57
    go_wp2_with fail
    go_returns
    exact ⟨⟨CC.bare ⟨5,pa,pl,pc,key,i,j,n,v,s⟩,rfl,rfl⟩,by go_grown⟩
  have f5:(k==5)=false:=by simp [e5]
  by_cases e6:k=6
  case pos=>
    subst e6
    go_enter Tryz.func57,Tryz.ntmps57
    go_wp2_with fail
    go_returns
    exact ⟨⟨CC.bare ⟨6,pa,pl,pc,key,i,j,n,v,s⟩,rfl,rfl⟩,by go_grown⟩
  have f6:(k==6)=false:=by simp [e6]
  by_cases e7:k=7
  case pos=>
    subst e7
    go_enter Tryz.func57,Tryz.ntmps57
    go_wp2_with fail
    go_returns
    exact ⟨⟨CC.bare ⟨7,pa,pl,pc,key,i,j,n,v,s⟩,rfl,rfl⟩,by go_grown⟩
  have f7:(k==7)=false:=by simp [e7]
  by_cases e8:k=8
  case pos=>
    subst e8
    go_enter Tryz.func57,Tryz.ntmps57
    go_wp2_with fail
    go_returns
    exact ⟨⟨CC.bare ⟨8,pa,pl,pc,key,i,j,n,v,s⟩,rfl,rfl⟩,by go_grown⟩
  have f8:(k==8)=false:=by simp [e8]
  by_cases e9:k=9
  case pos=>
    subst e9
    go_enter Tryz.func57,Tryz.ntmps57
    go_wp2_with fail
    go_returns
    exact ⟨⟨CC.bare ⟨9,pa,pl,pc,key,i,j,n,v,s⟩,rfl,rfl⟩,by go_grown⟩
  have f9:(k==9)=false:=by simp [e9]
  go_enter Tryz.func57,Tryz.ntmps57
  go_wp2_with fail
  go_returns
  refine ⟨⟨⟨k,pa,pl,pc,key,i,j,n,v,s⟩, ?_, ?_⟩,by go_grown⟩
  · have:kIs k=false:=by simp only [kIs,Bool.and_eq_false_iff,decide_eq_false_iff_not];omega
    rw [this]
  · have h1:kKey k=false:=by simp [kKey,e2,e3]
    have h2:kI k=false:=by simp only [kI,Bool.and_eq_false_iff,decide_eq_false_iff_not];omega
    have h3:kJ k=false:=by simp [kJ,e7]
    have h4:kN k=false:=by simp [kN,e1,e9]
    have h5:kV k=false:=by simp [kV,e2,e4,e6]
    have h6:kS k=false:=by simp [kS,e8]
    show _=_
    simp only [CC.bare,h1,h2,h3,h4,h5,h6];rfl
end Go.Proofs.YtgcfhkceejcliaaGreatDoor
namespace Go.Proofs.YtgcfhkceejcliaaGreatDoor
open Go.RowKit
set_option maxHeartbeats 16000000 in
set_option maxRecDepth 100000 in
theorem valPlain_any (w:World) (c:VC) (hT:Tabs w) (hbd:c.Bnd):
    Calls Tryz.prog 87 #[.agg #[.int .u8 c.k, .int .i64 c.n, .string c.s, .slice c.la c.ll c.lc, .slice c.oa c.ol c.oc]] w fun e w'=>e= .returned (.bool (plainB c.k c.n c.s c.ll c.ol))∧Below w.heap.size w w':=by
  have k0:=hbd.k0
  have hsz:=hbd.s1
  have hst:=boxed1_start w c 33
  obtain ⟨k,n,s,la,ll,lc,oa,ol,oc⟩:=c
  dsimp only at*
  have q1:=later_cell (show (w.alloc (.cells #[.int .u8 k, .int .i64 n, .string s, .slice la ll lc, .slice oa ol oc] 33)).cell? ⟨w.heap.size,1,none⟩=some (.int .i64 n) from hst.a.c1)
  have q2:=later_cell (show (w.alloc (.cells #[.int .u8 k, .int .i64 n, .string s, .slice la ll lc, .slice oa ol oc] 33)).cell? ⟨w.heap.size,2,none⟩=some (.string s) from hst.a.c2)
  have q3:=later_cell (show (w.alloc (.cells #[.int .u8 k, .int .i64 n, .string s, .slice la ll lc, .slice oa ol oc] 33)).cell? ⟨w.heap.size,3,none⟩=some (.slice la ll lc) from hst.a.c3)
  have q4:=later_cell (show (w.alloc (.cells #[.int .u8 k, .int .i64 n, .string s, .slice la ll lc, .slice oa ol oc] 33)).cell? ⟨w.heap.size,4,none⟩=some (.slice oa ol oc) from hst.a.c4)
  have q0:(w.alloc (.cells #[.int .u8 k, .int .i64 n, .string s, .slice la ll lc, .slice oa ol oc] 33)).cell? ⟨w.heap.size,0,none⟩=some (.int .u8 k):=hst.a.c0
  obtain ⟨bn,hbn⟩:∃bn,(n==0)=bn:=⟨_,rfl⟩
  obtain ⟨bs,hbs⟩:∃bs,s.toList.isEmpty=bs:=⟨_,rfl⟩
  obtain ⟨bl,hbl⟩:∃bl,((ll:Int)==0)=bl:=⟨_,rfl⟩
  obtain ⟨bo,hbo⟩:∃bo,((ol:Int)==0)=bo:=⟨_,rfl⟩
  obtain ⟨R,hR⟩:∃R,plainB k n s ll ol=R:=⟨_,rfl⟩
  rw [hR]
  have HR0:=Lib.hid hR
  clear hR
  go_enter Tryz.func87,Tryz.ntmps87
  generalize hW:(w.alloc (.cells #[.int .u8 k, .int .i64 n, .string s, .slice la ll lc, .slice oa ol oc] 33))=W at*
  go_wp2_with fail
  refine wp_region_later (by kernel_rfl) (by kernel_rfl) ?_
  repeat (go_big_quiet_step (fail))
  refine wpQuiet_nil ?_
  intro _ hw'
  obtain ⟨pq,hw''⟩:=hw'
  subst hw''
  have hT2:Tabs (later W pq):=(hT.below hst.below).below (below_later W pq)
  have q0':=later_cell q0 pq
  have q2':=later_cell (q2 pq)
  have hbb:Below w.heap.size w (later W pq):=hst.below.on (below_later W pq) hst.below.size
  have hbs1:w.heap.size<(later W pq).heap.size:=by have:=(below_later W pq).size;have:=hst.size;omega
  have q1':=q1 pq
  have q2'':=q2 pq
  clear hst q1 q2 q3 q4 q0 q2' hW hT
  generalize later W pq=W2 at*
  have hc:=fun _:Unit=>valid_any s W2 hsz hT2
  obtain ⟨vd,hvd⟩:∃vd,Lib.validD s.data.toList=vd:=⟨_,rfl⟩
  rw [hvd] at hc
  have HC:=Lib.hid hc
  have HBB:=Lib.hid hbb
  have hll:(ll==0)=bl:=by rw [←hbl];rw [Bool.eq_iff_iff];simp
  have hol:(ol==0)=bo:=by rw [←hbo];rw [Bool.eq_iff_iff];simp
  have hk:k=0∨k=1∨k=2∨k=3∨k=4∨k=5∨5<k:=by omega
  obtain ⟨b1,hb1⟩:∃b1,(n==1)=b1:=⟨_,rfl⟩
  have hR:=HR0.out
  have hR2:R=(if k=0 then bn && bs && bl && bo else if k=1 then (bn||b1) && bs && bl && bo else if k=2 then bs && bl && bo else if k=3 then bn && vd && bl && bo else if k=4 then bn && bs && bo else if k=5 then bn && bs && bl else false):=by
    rw [←hR];unfold plainB;rw [hbn,hb1,hbs,hvd,hll,hol]
  have HR:=Lib.hid hR2
  clear hc hbb hll hol hR hR2 hvd hbl hbo hbs hbn hT2 hbd
  have f0:(n==1)=b1:=hb1
  clear hb1
  rcases hk with rfl|rfl|rfl|rfl|rfl|rfl|hk
  · cases bn<;>cases bs<;>cases bl<;>cases bo
    all_goals
      go_wp2_with fail
      go_ret
      exact ⟨ret_bool (by rw [HR.out];rfl),HBB.out⟩
  · cases bn<;>cases b1<;>cases bs<;>cases bl<;>cases bo
    all_goals
      go_wp2_with fail
      go_ret
      exact ⟨ret_bool (by rw [HR.out];rfl),HBB.out⟩
  · cases bs<;>cases bl<;>cases bo
    all_goals
      go_wp2_with fail
      go_ret
      exact ⟨ret_bool (by rw [HR.out];rfl),HBB.out⟩
  · cases bn
    · go_wp2_with fail
      go_ret
      exact ⟨ret_bool (by rw [HR.out];rfl),HBB.out⟩
    · cases vd<;>cases bl<;>cases bo
      all_goals
        go_wp2_with (go_at_call 60;refine (HC.out ()).mono ?_;rintro e w' ⟨rfl,hb⟩)
        go_ret
        exact ⟨ret_bool (by rw [HR.out];rfl),HBB.out.on hb (by omega)⟩
  · cases bn<;>cases bs<;>cases bo
    all_goals
      go_wp2_with fail
      go_ret
      exact ⟨ret_bool (by rw [HR.out];rfl),HBB.out⟩
  · cases bn<;>cases bs<;>cases bl
    all_goals
      go_wp2_with fail
      go_ret
      exact ⟨ret_bool (by rw [HR.out];rfl),HBB.out⟩
  · go_wp2_with fail
    go_ret
    exact ⟨ret_bool (by rw [HR.out,if_neg (by omega),if_neg (by omega),if_neg (by omega),if_neg (by omega),if_neg (by omega),if_neg (by omega)]),HBB.out⟩
set_option maxHeartbeats 2000000 in
set_option maxRecDepth 100000 in
theorem valRising_any (l:List (ByteArray×V)) (w:World) (a:Option Addr) (n c:Nat) (h:IsFields w w.heap.size l a n c):
    Calls Tryz.prog 88 #[.slice a n c] w fun e w'=>e= .returned (.bool (rising l))∧Below w.heap.size w w':=by
  have k1:=h.max;have k2:=h.few
  have HLn:=Lib.hid h.len
  obtain ⟨R,hR⟩:∃R,rising l=R:=⟨_,rfl⟩
  rw [hR]
  have HR:=Lib.hid hR
  clear hR
  go_enter Tryz.func88,Tryz.ntmps88
  go_wp2_with fail
  go_loopw [6] (fun i wr=>∃k:Nat,k≤n∧i= .int .i64 k∧Hid (rising (l.take k)=true)∧Below w.heap.size w wr) (fun i _=>n - (intOf i).toNat)
  case atStart=>exact ⟨0,Nat.zero_le _,rfl,by rfl,Below.refl _ _⟩
  case round =>
    obtain ⟨k,hk,hi,HJ,hB⟩:=hrel
    by_cases hlt:k<n
    · obtain ⟨b,o,f,kl,ea,hb,g1,_,_,_⟩:=h.get hlt
      have g1:=keep_cell hB g1 hb
      rcases k with _|j
      · subst hi
        clear h
        subst ea
        go_wp2_with fail
        refine wp_region_later (by kernel_rfl) (by kernel_rfl) ?_
        repeat (go_big_quiet_step (fail))
        refine wpQuiet_nil ?_
        intro _ hw'
        obtain ⟨pq,hw''⟩:=hw'
        subst hw''
        go_wp2_with fail
        go_roundw
        case rel=>exact ⟨1,by omega,by go_num,rising_one l,hB.on (below_later _ _) hB.size⟩
        case measure=>simp [intOf];omega
      · have hi2:=hi.trans (show Value.int .i64 ((j+1:Nat):Int)= .int .i64 ((j:Int)+1) by go_num)
        clear hi
        subst hi2
        obtain ⟨b',o',f',jl,ea',hb',g2,_,_,_⟩:=h.get (show j<n by omega)
        clear h
        subst ea
        cases ea'
        have g2:=keep_cell hB g2 hb
        have t1:=later_cell g1
        have t2:=later_cell g2
        clear g1 g2
        by_cases hr:Op.bytesLess l[j].1.toList l[j+1].1.toList=true
        · obtain ⟨a1,a2⟩:=less_asym _ _ hr
          have a3:(l[j+1].1.toList==l[j].1.toList)=false:=by simp [Ne.symm a2]
          have HL:=Lib.hid hr
          clear hr a2
          go_wp2_with fail
          refine wp_region_later (by kernel_rfl) (by kernel_rfl) ?_
          repeat (go_big_quiet_step (fail))
          refine wpQuiet_nil ?_
          intro _ hw'
          obtain ⟨pq,hw''⟩:=hw'
          subst hw''
          clear t1 t2 a1 a3
          go_wp2_with fail
          go_roundw
          case rel=>exact ⟨j+1+1,by omega,by go_num,rising_step HJ.out kl HL.out,hB.on (below_later _ _) hB.size⟩
          case measure=>simp [intOf];omega
        · have hr:Op.bytesLess l[j].1.toList l[j+1].1.toList=false:=by simpa using hr
          have HL:=Lib.hid hr
          have a1:Op.bytesLess l[j+1].1.toList l[j].1.toList=true∨(Op.bytesLess l[j+1].1.toList l[j].1.toList=false∧l[j+1].1.toList=l[j].1.toList):=by
            rcases less_total l[j+1].1.toList l[j].1.toList with h|h|h
            · exact .inl h
            · cases hq:Op.bytesLess l[j+1].1.toList l[j].1.toList with
              |true=>exact .inl rfl
              |false=>exact .inr ⟨rfl,h⟩
            · rw [hr] at h;cases h
          clear hr
          rcases a1 with a1|⟨a1,a2⟩
          · go_wp2_with fail
            refine wp_region_later (by kernel_rfl) (by kernel_rfl) ?_
            repeat (go_big_quiet_step (fail))
            refine wpQuiet_nil ?_
            intro _ hw'
            obtain ⟨pq,hw''⟩:=hw'
            subst hw''
            clear t1 t2 a1
            go_wp2_with fail
            go_ret
            exact ⟨ret_bool (by rw [←HR.out,rising_no kl HL.out]),hB.on (below_later _ _) hB.size⟩
          · have a3:(l[j+1].1.toList==l[j].1.toList)=true:=by rw [a2];simp
            clear a2
            go_wp2_with fail
            refine wp_region_later (by kernel_rfl) (by kernel_rfl) ?_
            repeat (go_big_quiet_step (fail))
            refine wpQuiet_nil ?_
            intro _ hw'
            obtain ⟨pq,hw''⟩:=hw'
            subst hw''
            clear t1 t2 a1 a3
            go_wp2_with fail
            go_ret
            exact ⟨ret_bool (by rw [←HR.out,rising_no kl HL.out]),hB.on (below_later _ _) hB.size⟩
    · subst hi
      clear h
      go_wp2_with fail
      go_ret
      refine ⟨ret_bool ?_,hB⟩
      have hjo:=HJ.out
      rw [List.take_of_length_le (by have:=HLn.out;omega)] at hjo
      rw [←HR.out,hjo]
end Go.Proofs.YtgcfhkceejcliaaGreatDoor
namespace Go.Proofs.YtgcfhkceejcliaaGreatDoor
open Go.RowKit Go.Shelf
attribute [local go_sem] Oper.semAt_some
def VSound (v:V):Prop:=∀(w:World) (c:VC),IsVal w w.heap.size v c→Tabs w→
    Calls Tryz.prog 53 #[.agg #[.int .u8 c.k, .int .i64 c.n, .string c.s, .slice c.la c.ll c.lc, .slice c.oa c.ol c.oc]] w fun e w'=>e= .returned (.bool v.sound)∧Below w.heap.size w w'
theorem soundO_append (a b:List (ByteArray×V)):soundO (a++b)=(soundO a && soundO b):=by
  induction a with
  |nil=>simp [soundO]
  |cons f r ih=>simp [soundO,ih,Bool.and_assoc]
theorem kids_sound_no {w:World} {P:V→Prop} (pre:List (Kid w P)) (x:Kid w P) (h:Lib.validD x.kk.data.toList=false∨x.v.sound=false):Hid (soundO ((pre++ [x]).map Kid.pair)=false):=by
  show _=_
  rw [List.map_append,soundO_append]
  rcases h with h|h<;>simp [soundO,soundF_eq,Kid.pair,h]
theorem kids_sound_yes {w:World} {P:V→Prop} (pre:List (Kid w P)) (x:Kid w P) (h:soundO (pre.map Kid.pair)=true) (h1:Lib.validD x.kk.data.toList=true) (h2:x.v.sound=true):Hid (soundO ((pre++ [x]).map Kid.pair)=true):=by
  show _=_
  rw [List.map_append,soundO_append]
  simp [soundO,soundF_eq,Kid.pair,h,h1,h2]
theorem kids_front {w:World} {P:V→Prop} {pre ks:List (Kid w P)} (hp:pre<+:ks) (h:soundO (pre.map Kid.pair)=false):soundO (ks.map Kid.pair)=false:=by
  obtain ⟨r,rfl⟩:=hp
  rw [List.map_append,soundO_append,h,Bool.false_and]
theorem pairs_sound (l:List V) (o:List (ByteArray×V)):soundO (pairs l o)=(soundL l && soundO o):=by
  unfold pairs
  rw [soundO_append]
  congr 1
  induction l with
  |nil=>rfl
  |cons v r ih=>simp only [List.map_cons,soundO,soundF_eq,soundL,ih];rw [show Lib.validD (⟨#[]⟩:ByteArray).data.toList=true from Lib.validD_nil,Bool.true_and]
set_option maxHeartbeats 8000000 in
set_option maxRecDepth 100000 in
theorem valSound_any (a:V):VSound a:=by
  induction a using V.ind with
  |h k n s l o ihl iho=>
  intro w c ha hT
  obtain ⟨rfl,rfl,rfl,cbd,hl,ho⟩:=ha.lists
  obtain ⟨ks,hks,hpr⟩:=kids_of w VSound l o c hl ho ihl iho
  clear ihl iho ha
  refine callsIn_wide (n:=3)|>.1 ?_
  refine callsIn_of_wp_marks Tryz.func53 rfl trivial ?_ rfl
  simp only [Tryz.ntmps53,List.size_toArray,List.length_cons,List.length_nil,Nat.reduceAdd,Nat.reduceSub,Array.replicate_succ,Array.replicate_zero,List.push_toArray,List.append_toArray,List.nil_append,List.cons_append]
  obtain ⟨W0,hW0⟩:∃W0,((w.alloc (.cells #[.int .u8 c.k, .int .i64 c.n, .string c.s, .slice c.la c.ll c.lc, .slice c.oa c.ol c.oc] 33)).alloc (.cells #[.bool false] 4))=W0:=⟨_,rfl⟩
  have hst0:ValAt W0 w.heap.size 0 c:=by
    rw [←hW0];exact (valAt_new w c _).keep (B:=w.heap.size+1) ((Below.refl _ _).alloc (by simp) _) (by omega)
  have hres0:Boxed W0 (w.heap.size+1) 4 (.bool false):=by
    rw [←hW0]
    have h:=Boxed.new (w.alloc (.cells #[.int .u8 c.k, .int .i64 c.n, .string c.s, .slice c.la c.ll c.lc, .slice c.oa c.ol c.oc] 33)) 4 (.bool false)
    rw [World.size_alloc] at h
    exact h
  have hB0:Below w.heap.size w W0:=by rw [←hW0];exact ((Below.refl _ _).alloc (Nat.le_refl _) _).alloc (by simp) _
  have hz0:W0.heap.size=w.heap.size+2:=by rw [←hW0];simp
  have hp1:=valPlain_any W0 c (hT.below hB0) cbd
  have HL1:=Lib.hid hl.len;have HL2:=Lib.hid ho.len
  have hW:=hW0
  cases hp:plainB c.k c.n c.s c.ll c.ol with
  | false=>
    rw [hp, ←hW0] at hp1
    have H1:=Lib.hid hp1
    have HPP:Hid ((V.mk c.k c.n c.s l o).sound=false):=sound_plain (by rw [←HL1.out, ←HL2.out];exact hp)
    obtain ⟨R,hR⟩:∃R,(V.mk c.k c.n c.s l o).sound=R:=⟨_,rfl⟩
    rw [hR]
    have HR:=Lib.hid hR
    have HW:=Lib.hid hW0
    clear hR hp1 hp hW0 hW
    gi_wp2_with (refine ⟨trivial, ?_⟩;gi_at_call 87;refine (callsIn_wide.2 H1.out).mono ?_;rintro e w1 ⟨rfl,hb1⟩;rw [HW.out] at hb1;have cR:=(hb1.cell (p:=⟨w.heap.size+1,0,none⟩) (by simp [hz0])).trans hres0.cell;have fR:=(hb1.frozen (p:=⟨w.heap.size+1,0,none⟩) (by simp [hz0])).trans hres0.frozen)
    refine ⟨trivial, ?_⟩
    gi_wp2
    have hres1:Boxed w1 (w.heap.size+1) 4 (.bool false):=(hb1.block _ (by omega)).trans hres0
    have hc2:=(hres1.set (.bool false)).cell
    refine ⟨.bool false,by simp [results,Tryz.results53,go_sem,hc2],ret_bool (by rw [←HR.out,HPP.out]),(hB0.on hb1 hB0.size).setCell (by simp) _⟩
  | true =>
    rw [hp, ←hW0] at hp1
    have H1:=Lib.hid hp1
    have HPP:Hid ((V.mk c.k c.n c.s l o).sound=(rising o && soundL l && soundO o)):=by simp [Hid,V.sound, ←HL1.out, ←HL2.out,hp]
    obtain ⟨R,hR⟩:∃R,(V.mk c.k c.n c.s l o).sound=R:=⟨_,rfl⟩
    rw [hR]
    have HR:=Lib.hid hR
    have HW:=Lib.hid hW0
    clear hR hp1 hp hW0 hW
    gi_wp2_with (refine ⟨trivial, ?_⟩;gi_at_call 87;refine (callsIn_wide.2 H1.out).mono ?_;rintro e w1 ⟨rfl,hb1⟩;rw [HW.out] at hb1;have hv1:=hst0.keep hb1 (by omega);have q4:w1.cell? ⟨w.heap.size,4,none⟩=some (.slice c.oa c.ol c.oc):=hv1.c4)
    have hB1:=hB0.on hb1 hB0.size
    have hri:=valRising_any o w1 _ _ _ (ho.later_ hB1)
    have hres1:Boxed w1 (w.heap.size+1) 4 (.bool false):=(hb1.block _ (by omega)).trans hres0
    have cR:=hres1.cell
    have fR:=hres1.frozen
    cases hr:rising o with
    | false=>
      rw [hr] at hri
      have H2:=Lib.hid hri
      have Hr:=Lib.hid hr
      clear hri hr
      gi_wp2_with (refine ⟨trivial, ?_⟩;gi_at_call 88;refine (callsIn_wide.2 H2.out).mono ?_;rintro e w2 ⟨rfl,hb2⟩;have cR2:=(hb2.cell (p:=⟨w.heap.size+1,0,none⟩) (by exact hres1.lt)).trans cR;have fR2:=(hb2.frozen (p:=⟨w.heap.size+1,0,none⟩) (by exact hres1.lt)).trans fR)
      have hr2:Boxed w2 (w.heap.size+1) 4 (.bool false):=(hb2.block _ hres1.lt).trans hres1
      have hc2:=(hr2.set (.bool false)).cell
      refine ⟨.bool false,by simp [results,Tryz.results53,go_sem,hc2],ret_bool (by rw [←HR.out,HPP.out,Hr.out];simp),(hB1.on hb2 hB1.size).setCell (by simp) _⟩
    | true =>
      rw [hr] at hri
      have H2:=Lib.hid hri
      have Hr:=Lib.hid hr
      clear hri hr
      gi_wp2_with (first|(refine ⟨trivial, ?_⟩;gi_at_call 88;refine (callsIn_wide.2 H2.out).mono ?_;rintro e w2 ⟨rfl,hb2⟩;have hv2:=hv1.keep hb2 (by have:=hb1.size;omega);have z0:w2.cell? ⟨w.heap.size,0,none⟩=_:=hv2.c0;have z1:w2.cell? ⟨w.heap.size,1,none⟩=_:=hv2.c1;have z2:w2.cell? ⟨w.heap.size,2,none⟩=_:=hv2.c2;have z3:w2.cell? ⟨w.heap.size,3,none⟩=_:=hv2.c3;have z4:w2.cell? ⟨w.heap.size,4,none⟩=_:=hv2.c4)|(refine ⟨trivial, ?_⟩;gi_at_call 89;refine (within_in _ _ trivial rfl c _).mono ?_;rintro e w' ⟨rfl,rfl⟩))
      have hB2:=hB1.on hb2 hB1.size
      have hres2:Boxed w2 (w.heap.size+1) 4 (.bool false):=(hb2.block _ hres1.lt).trans hres1
      have hz2:w.heap.size+2≤w2.heap.size:=by have:=hb1.size;have:=hb2.size;omega
      clear z0 z1 z2 z3 z4 hb2 hb1 cR fR hres1 hB1 hres0 hst0 q4 hv1
      obtain ⟨W3,hW3⟩:∃W3,(w2.alloc (.cells #[.int .u8 c.k, .int .i64 c.n, .string c.s, .slice c.la c.ll c.lc, .slice c.oa c.ol c.oc] 33))=W3:=⟨_,rfl⟩
      have hbx:ValAt W3 w2.heap.size 0 c:=by rw [←hW3];exact valAt_new w2 c _
      have hB3:Below w.heap.size w W3:=by rw [←hW3];exact hB2.alloc hB2.size _
      have hres3:Boxed W3 (w.heap.size+1) 4 (.bool false):=by rw [←hW3];exact hres2.alloc _
      have hz3:W3.heap.size=w2.heap.size+1:=by rw [←hW3];simp
      rw [hW3]
      clear hW3
      refine wpIn_rangeFunc_ownH (α:=Kid w VSound) rfl (by omega) (gf:=111) (lb:= #[.pointer (some ⟨w2.heap.size,0,none⟩)]) rfl trivial (enters_of Tryz.func111 (by kernel_rfl) rfl)
        (within_stops Fence.wide 2 trivial rfl (by omega) w VSound w2.heap.size c cbd ks W3 w.heap.size (by omega) (by omega) hbx (hks.keep (.of_below_any hB3))) keepAt_t (keepAt_b (by omega) (by omega)) (Below.refl _ _) (fun _=>rfl)
        (fun pre W=>(Boxed W (w.heap.size+1) 4 (.bool false))∧Below w.heap.size w W∧W3.heap.size≤W.heap.size∧Hid (soundO (pre.map Kid.pair)=true))
        (fun j pre W=>(Boxed W (w.heap.size+1) 4 (.bool false))∧Below w.heap.size w W∧(j= .ret∧Hid (soundO (pre.map Kid.pair)=false)))
        (OwnFrom.and (Own.from (boxed_own _ _ _) _) (OwnFrom.and (ownFrom_below (Nat.le_refl _) (by omega)) (OwnFrom.and (fun _ _ _ _ hs hg _=>Nat.le_trans hs hg.size) (fun _ _ _ _ hs _ _=>hs))))
        (fun _=>OwnFrom.and (Own.from (boxed_own _ _ _) _) (OwnFrom.and (ownFrom_below (Nat.le_refl _) (by omega)) (fun _ _ _ _ hs _ _=>hs)))
        ⟨hres3,hB3,Nat.le_refl _,rfl⟩
        (fun x a' W=>∃Bx,W3.heap.size≤Bx∧ValAt W Bx 0 x.kv∧a'= { tmps:= #[.agg #[.int .u8 c.k, .int .i64 c.n, .string c.s, .slice c.la c.ll c.lc, .slice c.oa c.ol c.oc], .pointer (some ⟨w.heap.size,0,none⟩), .pointer (some ⟨w.heap.size+1,0,none⟩), .string x.kk, .pointer (some ⟨Bx,0,none⟩), .agg #[.int .u8 c.k, .int .i64 c.n, .string c.s, .slice c.la c.ll c.lc, .slice c.oa c.ol c.oc], .bool true, .bool false, .bool false, .pointer (some ⟨w.heap.size,4,none⟩), .slice c.oa c.ol c.oc, .bool true, .bool false, .bool false, .agg #[.int .u8 c.k, .int .i64 c.n, .string c.s, .slice c.la c.ll c.lc, .slice c.oa c.ol c.oc], .func (.func 111) #[] #[.pointer (some ⟨w2.heap.size,0,none⟩)], .string x.kk, .agg #[.int .u8 x.kv.k, .int .i64 x.kv.n, .string x.kv.s, .slice x.kv.la x.kv.ll x.kv.lc, .slice x.kv.oa x.kv.ol x.kv.oc],undef,undef,undef,undef,undef,undef,undef,undef],defers:= [] })
        (fun x a' _ X Y row hs hg hr=>by
          obtain ⟨Bx,h1,h2,h3⟩:=hs
          exact ⟨Bx,h1,ValAt.own (β:=Unit) Bx 0 (fun _=>x.kv) () X Y row h2 hg (fun r e=>(hr r e).2),h3⟩)
        ?assign ?body ?done ?stop
      case assign=>
        rintro l pre x W K ⟨bS1,hB1,hz1,hJ⟩ hK
        dsimp only [Kid.encs]
        gi_wp2
        exact hK _ _ ((KeepsOthers.alloc _ _).from _) (KeepAt.alloc W _ (by omega) (by omega)) ⟨bS1.alloc _,hB1.alloc hB1.size _,by simp;omega,hJ⟩ ⟨W.heap.size,hz1,valAt_new W x.kv _,rfl⟩
      case body=>
        rintro l pre x a' W hl _ ⟨bS1,hB1,hz1,hJ⟩ ⟨Bx,hBx,vX,rfl⟩ hlt
        have cS:=bS1.cell
        have fS:=bS1.frozen
        have hBlt:Bx<W.heap.size:=World.block_lt_of_cell? W ⟨Bx,0,none⟩ vX.c0
        have hTW:=hT.below hB1
        have hv0:=valid_any x.kk W x.sz hTW
        cases hv:Lib.validD x.kk.data.toList with
        | false=>
          rw [hv] at hv0
          have H:=Lib.hid hv0
          have HV:=Lib.hid hv
          clear hv hv0
          gi_wp2_with (refine ⟨trivial, ?_⟩;gi_at_call 60;refine (CallsIn.inRound l (callsIn_wide.2 H.out)).mono ?_;rintro e w' ⟨rfl,hb⟩;have cS':=(hb.cell (p:=⟨w.heap.size+1,0,none⟩) (by exact bS1.lt)).trans cS;have fS':=(hb.frozen (p:=⟨w.heap.size+1,0,none⟩) (by exact bS1.lt)).trans fS)
          refine ⟨trivial, ?_⟩
          gi_wp2
          have hbx':Boxed w' (w.heap.size+1) 4 (.bool false):=(hb.block _ bS1.lt).trans bS1
          exact ⟨((keepsOthers_below hb).trans (KeepsOthers.setCell _ _ _)).from _,hbx'.set _,(hB1.on hb hB1.size).setCell (by simp) _,rfl,kids_sound_no pre x (.inl HV.out)⟩
        | true=>
          rw [hv] at hv0
          have H:=Lib.hid hv0
          have HV:=Lib.hid hv
          clear hv hv0
          have hsx:=fun (W':World) (h:Below w.heap.size w W')=>x.p W' x.kv (x.is.later_ h) (hT.below h)
          cases hx:x.v.sound with
          | false=>
            rw [hx] at hsx
            have H2:=Lib.hid hsx
            have HX:=Lib.hid hx
            clear hsx hx
            gi_wp2_with (first|(refine ⟨trivial, ?_⟩;gi_at_call 60;refine (CallsIn.inRound l (callsIn_wide.2 H.out)).mono ?_;rintro e w' ⟨rfl,hb⟩;have vX':=vX.keep hb hBlt;have y0:w'.cell? ⟨Bx,0,none⟩=_:=vX'.c0;have y1:w'.cell? ⟨Bx,1,none⟩=_:=vX'.c1;have y2:w'.cell? ⟨Bx,2,none⟩=_:=vX'.c2;have y3:w'.cell? ⟨Bx,3,none⟩=_:=vX'.c3;have y4:w'.cell? ⟨Bx,4,none⟩=_:=vX'.c4;clear vX vX')|(refine ⟨trivial, ?_⟩;gi_at_call 53;refine (CallsIn.inRound l (callsIn_wide.2 (H2.out _ (hB1.on hb hB1.size)))).mono ?_;rintro e w3 ⟨rfl,hb3⟩;have hb4:=hb.on hb3 hb.size;have cS':=(hb4.cell (p:=⟨w.heap.size+1,0,none⟩) (by exact bS1.lt)).trans cS;have fS':=(hb4.frozen (p:=⟨w.heap.size+1,0,none⟩) (by exact bS1.lt)).trans fS))
            have hbx':Boxed w3 (w.heap.size+1) 4 (.bool false):=(hb4.block _ bS1.lt).trans bS1
            exact ⟨((keepsOthers_below hb4).trans (KeepsOthers.setCell _ _ _)).from _,hbx'.set _,(hB1.on hb4 hB1.size).setCell (by simp) _,rfl,kids_sound_no pre x (.inr HX.out)⟩
          | true=>
            rw [hx] at hsx
            have H2:=Lib.hid hsx
            have HX:=Lib.hid hx
            clear hsx hx
            gi_wp2_with (first|(refine ⟨trivial, ?_⟩;gi_at_call 60;refine (CallsIn.inRound l (callsIn_wide.2 H.out)).mono ?_;rintro e w' ⟨rfl,hb⟩;have vX':=vX.keep hb hBlt;have y0:w'.cell? ⟨Bx,0,none⟩=_:=vX'.c0;have y1:w'.cell? ⟨Bx,1,none⟩=_:=vX'.c1;have y2:w'.cell? ⟨Bx,2,none⟩=_:=vX'.c2;have y3:w'.cell? ⟨Bx,3,none⟩=_:=vX'.c3;have y4:w'.cell? ⟨Bx,4,none⟩=_:=vX'.c4;clear vX vX')|(refine ⟨trivial, ?_⟩;gi_at_call 53;refine (CallsIn.inRound l (callsIn_wide.2 (H2.out _ (hB1.on hb hB1.size)))).mono ?_;rintro e w3 ⟨rfl,hb3⟩;have hb4:=hb.on hb3 hb.size))
            have hbx':Boxed w3 (w.heap.size+1) 4 (.bool false):=(hb4.block _ bS1.lt).trans bS1
            exact ⟨(keepsOthers_below hb4).from _, .of_below hb4 (by omega) (by omega),hbx',hB1.on hb4 hB1.size,by have:=hb4.size;omega,kids_sound_yes pre x hJ.out HV.out HX.out⟩
      case done=>
        rintro D ys W hD rfl ⟨bS,hB,hz1,hJ⟩ hK
        have cS:=bS.cell
        have fS:=bS.frozen
        gi_wp2
        have hK2:(W.setCell ⟨w.heap.size+1,0,none⟩ (.bool true)).heap[D]? =some (.deferred (some [])):=(KeepsOthers.setCell _ _ _).same D _ hK rfl
        refine ⟨by simp, .inl ⟨_,_,rfl,run_takeDeferred hK2, ?_⟩⟩
        have hr3:=(bS.set (.bool true)).kept (grownBy_putObj' _ D (.deferred none)) (by intro e;cases e;omega)
        have hc3:=hr3.cell
        refine ⟨.bool true,by simp [results,Tryz.results53,go_sem,hc3],ret_bool ?_,(hB.setCell (by simp) _).grown (grownBy_putObj' _ D _) (by simp [World.setCell];exact hB.size) (fun k e=>by cases e;omega)⟩
        have hj:=hJ.out
        rw [hpr,pairs_sound] at hj
        rw [←HR.out,HPP.out,Hr.out,Bool.true_and]
        exact hj.symm
      case stop=>
        rintro D c' pre W hD hp ⟨bS,hB,rfl,hJ⟩ hK
        gi_wp2
        refine ⟨by simp, .inl ⟨_,_,rfl,run_takeDeferred hK, ?_⟩⟩
        have hr3:=bS.kept (grownBy_putObj' _ D (.deferred none)) (by intro e;cases e;omega)
        have hc3:=hr3.cell
        refine ⟨.bool false,by simp [results,Tryz.results53,go_sem,hc3],ret_bool ?_,hB.grown (grownBy_putObj' _ D _) hB.size (fun k e=>by cases e;omega)⟩
        rw [←HR.out,HPP.out,Hr.out,Bool.true_and, ←pairs_sound, ←hpr]
        exact (kids_front hp hJ.out).symm
end Go.Proofs.YtgcfhkceejcliaaGreatDoor
namespace Go.Proofs.YtgcfhkceejcliaaGreatDoor
open Go.RowKit
noncomputable def cmSound (x:Cm):Bool:=
  kIs x.k && eqB x.bare ⟨x.k,x.path, .empty,0,0,0,V.none, .empty⟩ && pathSound x.path && Lib.validD x.key.data.toList && Lib.validD x.s.data.toList &&
  decide (0≤x.i) && decide (0≤x.j) && !(x.k==8 && x.s.toList.isEmpty) && !(x.k==9 && decide (x.n<1)) &&
  x.v.sound && decide (x.path.length+1+x.v.deep≤16) && decide (x.v.weight≤20000)
structure Boxed1C (w W:World) (c:CC):Prop where
  at_:CompAt W w.heap.size 0 c
  below:Below w.heap.size w W
  size:w.heap.size+1≤W.heap.size
theorem Boxed1C.step {w W W':World} {c:CC} (h:Boxed1C w W c) (hb:Below W.heap.size W W'):Boxed1C w W' c:=
  ⟨h.at_.keep hb (by have:=h.size;omega),h.below.trans (hb.mono (by have:=h.size;omega)),by have:=h.size;have:=hb.size;omega⟩
theorem boxed1C_start (w:World) (c:CC) (t:TypeId):Boxed1C w (w.alloc (.cells #[.int .u8 c.k, .slice c.pa c.pl c.pc, .string c.key, .int .i64 c.i, .int .i64 c.j, .int .i64 c.n, .int .u8 c.v.k, .int .i64 c.v.n, .string c.v.s, .slice c.v.la c.v.ll c.v.lc, .slice c.v.oa c.v.ol c.v.oc, .string c.s] t)) c:=
  ⟨⟨cells_new _ _ _ _ _ rfl,cells_new _ _ _ _ _ rfl,cells_new _ _ _ _ _ rfl,cells_new _ _ _ _ _ rfl,cells_new _ _ _ _ _ rfl,cells_new _ _ _ _ _ rfl,⟨cells_new _ _ _ _ _ rfl,cells_new _ _ _ _ _ rfl,cells_new _ _ _ _ _ rfl,cells_new _ _ _ _ _ rfl,cells_new _ _ _ _ _ rfl⟩,cells_new _ _ _ _ _ rfl⟩,(Below.refl _ _).alloc (Nat.le_refl _) _,by simp⟩
def Behind (w:World) (f:FuncId) (args:Array Value) (v:Value):Prop:=∀W,Below w.heap.size w W→Calls Tryz.prog f args W fun e w'=>e= .returned v∧Below W.heap.size W w'
theorem Behind.at_ {w W:World} {f:FuncId} {args:Array Value} {v:Value} (h:Behind w f args v) (hW:Below w.heap.size w W):Calls Tryz.prog f args W fun e w'=>e= .returned v∧Below W.heap.size W w':=h W hW
set_option maxHeartbeats 8000000 in
set_option maxRecDepth 100000 in
theorem compSound_any (x:Cm) (w:World) (hT:Tabs w) (c:CC) (hx:IsComp w w.heap.size x c) (hw:x.v.weight≤4611686018427387904):
    Calls Tryz.prog 33 #[.agg #[.int .u8 c.k, .slice c.pa c.pl c.pc, .string c.key, .int .i64 c.i, .int .i64 c.j, .int .i64 c.n, .int .u8 c.v.k, .int .i64 c.v.n, .string c.v.s, .slice c.v.la c.v.ll c.v.lc, .slice c.v.oa c.v.ol c.v.oc, .string c.s]] w fun e w'=>e= .returned (.bool (cmSound x))∧Below w.heap.size w w':=by
  have hbare:=hx.bare
  cases hx with
  |mk c p v hb hp hv=>
  dsimp only [Cm.bare] at hbare
  dsimp only at hw
  have HBARE:Hid (∀W,Below w.heap.size w W→Calls Tryz.prog 57 #[.agg #[.int .u8 c.k, .slice c.pa c.pl c.pc, .string c.key, .int .i64 c.i, .int .i64 c.j, .int .i64 c.n, .int .u8 c.v.k, .int .i64 c.v.n, .string c.v.s, .slice c.v.la c.v.ll c.v.lc, .slice c.v.oa c.v.ol c.v.oc, .string c.s]] W fun e w'=>(∃d:CC,e= .returned (.tuple #[.agg #[.int .u8 d.k, .slice d.pa d.pl d.pc, .string d.key, .int .i64 d.i, .int .i64 d.j, .int .i64 d.n, .int .u8 d.v.k, .int .i64 d.v.n, .string d.v.s, .slice d.v.la d.v.ll d.v.lc, .slice d.v.oa d.v.ol d.v.oc, .string d.s], .bool (kIs c.k)])∧Hid (d=c.bare))∧Below W.heap.size W w'):=fun W _=>bare_any c W hb
  obtain ⟨sm,hsm⟩:∃sm,eqB (Cm.bare ⟨c.k,p,c.key,c.i,c.j,c.n,v,c.s⟩) ⟨c.k,p, .empty,0,0,0,V.none, .empty⟩=sm:=⟨_,rfl⟩
  have HSAME:Hid (∀d:CC,Hid (d=c.bare)→Behind w 58 #[.agg #[.int .u8 d.k, .slice d.pa d.pl d.pc, .string d.key, .int .i64 d.i, .int .i64 d.j, .int .i64 d.n, .int .u8 d.v.k, .int .i64 d.v.n, .string d.v.s, .slice d.v.la d.v.ll d.v.lc, .slice d.v.oa d.v.ol d.v.oc, .string d.s], .agg #[.int .u8 c.k, .slice c.pa c.pl c.pc, .string { data:= #[] }, .int .i64 0, .int .i64 0, .int .i64 0, .int .u8 0, .int .i64 0, .string { data:= #[] }, .slice none 0 0, .slice none 0 0, .string { data:= #[] }]] (.bool sm)):=by
    intro d hd W hW
    obtain rfl:=hd.out
    rw [←hsm]
    exact compSame_any _ _ W c.bare ⟨c.k,c.pa,c.pl,c.pc, .empty,0,0,0,VC.none, .empty⟩ (hbare.later_ hW) (IsComp.later_ hW (.mk ⟨c.k,c.pa,c.pl,c.pc, .empty,0,0,0,VC.none, .empty⟩ p V.none ⟨hb.k0,hb.k1,by show (-9223372036854775808:Int)≤0;decide,by show (0:Int)≤9223372036854775807;decide,by show (-9223372036854775808:Int)≤0;decide,by show (0:Int)≤9223372036854775807;decide,by show (-9223372036854775808:Int)≤0;decide,by show (0:Int)≤9223372036854775807;decide,by show 0≤140737488355328;decide,by show 0≤140737488355328;decide⟩ hp (isVal_none _ _)))
  obtain ⟨kn,hkn⟩:∃kn,kIs c.k=kn:=⟨_,rfl⟩
  obtain ⟨ps,hps⟩:∃ps,pathSound p=ps:=⟨_,rfl⟩
  obtain ⟨vk,hvk⟩:∃vk,Lib.validD c.key.data.toList=vk:=⟨_,rfl⟩
  obtain ⟨vs,hvs⟩:∃vs,Lib.validD c.s.data.toList=vs:=⟨_,rfl⟩
  obtain ⟨be,hbe⟩:∃be,c.s.toList.isEmpty=be:=⟨_,rfl⟩
  obtain ⟨sd,hsd⟩:∃sd,v.sound=sd:=⟨_,rfl⟩
  obtain ⟨dp,hdp⟩:∃dp,v.deep=dp:=⟨_,rfl⟩
  obtain ⟨wt,hwt⟩:∃wt,v.weight=wt:=⟨_,rfl⟩
  have HPS:Hid (Behind w 59 #[.slice c.pa c.pl c.pc] (.bool ps)):=fun W hW=>by rw [←hps];exact pathSound_any p W (hT.below hW) _ _ _ (hp.later_ hW)
  have HVK:Hid (Behind w 60 #[.string c.key] (.bool vk)):=fun W hW=>by rw [←hvk];exact valid_any c.key W hb.key1 (hT.below hW)
  have HVS:Hid (Behind w 60 #[.string c.s] (.bool vs)):=fun W hW=>by rw [←hvs];exact valid_any c.s W hb.s1 (hT.below hW)
  have HSD:Hid (Behind w 53 #[.agg #[.int .u8 c.v.k, .int .i64 c.v.n, .string c.v.s, .slice c.v.la c.v.ll c.v.lc, .slice c.v.oa c.v.ol c.v.oc]] (.bool sd)):=fun W hW=>by rw [←hsd];exact valSound_any v W c.v (hv.later_ hW) (hT.below hW)
  have HDP:Hid (Behind w 54 #[.agg #[.int .u8 c.v.k, .int .i64 c.v.n, .string c.v.s, .slice c.v.la c.v.ll c.v.lc, .slice c.v.oa c.v.ol c.v.oc]] (.int .i64 dp)):=fun W hW=>by rw [←hdp];exact valDeep_any v hw W c.v (hv.later_ hW)
  have HWT:Hid (Behind w 55 #[.agg #[.int .u8 c.v.k, .int .i64 c.v.n, .string c.v.s, .slice c.v.la c.v.ll c.v.lc, .slice c.v.oa c.v.ol c.v.oc]] (.int .i64 wt)):=fun W hW=>by rw [←hwt];exact valWeight_any v hw W c.v (hv.later_ hW)
  have f0:(c.s.toList== [])=be:=by rw [←hbe];cases c.s.toList<;>rfl
  have k1:=hp.few;have k2:=hp.max;have k3:=hp.cap
  have k4:wt≤4611686018427387904:=by omega
  have k5:dp≤4611686018427387904:=by have:=v.deep_lt;omega
  obtain ⟨R,hR⟩:∃R,cmSound ⟨c.k,p,c.key,c.i,c.j,c.n,v,c.s⟩=R:=⟨_,rfl⟩
  have hR2:R=(kn && sm && ps && vk && vs && decide (0≤c.i) && decide (0≤c.j) && !(c.k==8 && be) && !(c.k==9 && decide (c.n<1)) && sd && decide (c.pl+1+dp≤16) && decide (wt≤20000)):=by
    rw [←hR];simp only [cmSound];rw [hsm,hkn,hps,hvk,hvs,hbe,hsd,hdp,hwt,hp.len]
  rw [hR]
  rw [hkn] at HBARE
  have HR:=Lib.hid hR2
  have bx:=boxed1C_start w c 63
  clear hbare hsm hkn hps hvk hvs hbe hsd hdp hwt hR hR2 hb hp hv hw hT
  go_enter Tryz.func33,Tryz.ntmps33
  cases kn with
  |false=>go_wp2_with (go_at_call 57;refine (HBARE.out _ (by have:=bx.below;have:=bx.size;go_grown)).mono ?_;rintro e w1 ⟨⟨d,rfl,hd⟩,hb1⟩;replace bx:=(bx.step (by go_grown)).step hb1;have zs:w.heap.size<w1.heap.size:=bx.size;have z0:=bx.at_.c0;have z1:=bx.at_.c1);go_ret;exact ⟨ret_bool (by rw [HR.out];first|(simp [*];done)|(simp [*];intros;omega)),by have:=bx.below;have:=bx.size;go_grown⟩
  |true=>
  go_wp2_with (go_at_call 57;refine (HBARE.out _ (by have:=bx.below;have:=bx.size;go_grown)).mono ?_;rintro e w1 ⟨⟨d,rfl,hd⟩,hb1⟩;replace bx:=(bx.step (by go_grown)).step hb1;have zs:w.heap.size<w1.heap.size:=bx.size;have z0:=bx.at_.c0;have z1:=bx.at_.c1)
  cases sm with
  |false=>go_wp2_with (go_at_call 58;(with_reducible refine (Behind.at_ (HSAME.out d hd) ?_).mono ?_);(focus (have:=bx.below;have:=bx.size;go_grown));rintro e w1 ⟨rfl,hb1⟩;replace bx:=(bx.step (by go_grown)).step hb1;have zs:w.heap.size<w1.heap.size:=bx.size;have z0:=bx.at_.c0;have z1:=bx.at_.c1;have z2:=bx.at_.c2;have z3:=bx.at_.c3;have z4:=bx.at_.c4;have z5:=bx.at_.c5;have z6:=bx.at_.c11);go_ret;exact ⟨ret_bool (by rw [HR.out];first|(simp [*];done)|(simp [*];intros;omega)),by have:=bx.below;have:=bx.size;go_grown⟩
  |true=>
  go_wp2_with (go_at_call 58;(with_reducible refine (Behind.at_ (HSAME.out d hd) ?_).mono ?_);(focus (have:=bx.below;have:=bx.size;go_grown));rintro e w1 ⟨rfl,hb1⟩;replace bx:=(bx.step (by go_grown)).step hb1;have zs:w.heap.size<w1.heap.size:=bx.size;have z0:=bx.at_.c0;have z1:=bx.at_.c1;have z2:=bx.at_.c2;have z3:=bx.at_.c3;have z4:=bx.at_.c4;have z5:=bx.at_.c5;have z6:=bx.at_.c11)
  cases ps with
  |false=>go_wp2_with (go_at_call 59;(with_reducible refine (Behind.at_ (HPS.out) ?_).mono ?_);(focus (have:=bx.below;have:=bx.size;go_grown));rintro e w1 ⟨rfl,hb1⟩;replace bx:=(bx.step (by go_grown)).step hb1;have zs:w.heap.size<w1.heap.size:=bx.size;have z0:=bx.at_.c0;have z1:=bx.at_.c1;have z2:=bx.at_.c2;have z3:=bx.at_.c3;have z4:=bx.at_.c4;have z5:=bx.at_.c5;have z6:=bx.at_.c11);go_ret;exact ⟨ret_bool (by rw [HR.out];first|(simp [*];done)|(simp [*];intros;omega)),by have:=bx.below;have:=bx.size;go_grown⟩
  |true=>
  go_wp2_with (go_at_call 59;(with_reducible refine (Behind.at_ (HPS.out) ?_).mono ?_);(focus (have:=bx.below;have:=bx.size;go_grown));rintro e w1 ⟨rfl,hb1⟩;replace bx:=(bx.step (by go_grown)).step hb1;have zs:w.heap.size<w1.heap.size:=bx.size;have z0:=bx.at_.c0;have z1:=bx.at_.c1;have z2:=bx.at_.c2;have z3:=bx.at_.c3;have z4:=bx.at_.c4;have z5:=bx.at_.c5;have z6:=bx.at_.c11)
  cases vk with
  |false=>go_wp2_with (go_at_call 60;(with_reducible refine (Behind.at_ (HVK.out) ?_).mono ?_);(focus (have:=bx.below;have:=bx.size;go_grown));rintro e w1 ⟨rfl,hb1⟩;replace bx:=(bx.step (by go_grown)).step hb1;have zs:w.heap.size<w1.heap.size:=bx.size;have z0:=bx.at_.c0;have z1:=bx.at_.c1;have z2:=bx.at_.c2;have z3:=bx.at_.c3;have z4:=bx.at_.c4;have z5:=bx.at_.c5;have z6:=bx.at_.c11);go_ret;exact ⟨ret_bool (by rw [HR.out];first|(simp [*];done)|(simp [*];intros;omega)),by have:=bx.below;have:=bx.size;go_grown⟩
  |true=>
  go_wp2_with (go_at_call 60;(with_reducible refine (Behind.at_ (HVK.out) ?_).mono ?_);(focus (have:=bx.below;have:=bx.size;go_grown));rintro e w1 ⟨rfl,hb1⟩;replace bx:=(bx.step (by go_grown)).step hb1;have zs:w.heap.size<w1.heap.size:=bx.size;have z0:=bx.at_.c0;have z1:=bx.at_.c1;have z2:=bx.at_.c2;have z3:=bx.at_.c3;have z4:=bx.at_.c4;have z5:=bx.at_.c5;have z6:=bx.at_.c11)
  cases vs with
  |false=>go_wp2_with (go_at_call 60;(with_reducible refine (Behind.at_ (HVS.out) ?_).mono ?_);(focus (have:=bx.below;have:=bx.size;go_grown));rintro e w1 ⟨rfl,hb1⟩;replace bx:=(bx.step (by go_grown)).step hb1;have zs:w.heap.size<w1.heap.size:=bx.size;have z0:=bx.at_.c0;have z1:=bx.at_.c1;have z2:=bx.at_.c2;have z3:=bx.at_.c3;have z4:=bx.at_.c4;have z5:=bx.at_.c5;have z6:=bx.at_.c11);go_ret;exact ⟨ret_bool (by rw [HR.out];first|(simp [*];done)|(simp [*];intros;omega)),by have:=bx.below;have:=bx.size;go_grown⟩
  |true=>
  by_cases hi:c.i<0
  · go_wp2_with (go_at_call 60;(with_reducible refine (Behind.at_ (HVS.out) ?_).mono ?_);(focus (have:=bx.below;have:=bx.size;go_grown));rintro e w1 ⟨rfl,hb1⟩;replace bx:=(bx.step (by go_grown)).step hb1;have zs:w.heap.size<w1.heap.size:=bx.size;have z0:=bx.at_.c0;have z1:=bx.at_.c1;have z2:=bx.at_.c2;have z3:=bx.at_.c3;have z4:=bx.at_.c4;have z5:=bx.at_.c5;have z6:=bx.at_.c11);go_ret;exact ⟨ret_bool (by rw [HR.out];first|(simp [*];done)|(simp [*];intros;omega)),by have:=bx.below;have:=bx.size;go_grown⟩
  by_cases hj:c.j<0
  · go_wp2_with (go_at_call 60;(with_reducible refine (Behind.at_ (HVS.out) ?_).mono ?_);(focus (have:=bx.below;have:=bx.size;go_grown));rintro e w1 ⟨rfl,hb1⟩;replace bx:=(bx.step (by go_grown)).step hb1;have zs:w.heap.size<w1.heap.size:=bx.size;have z0:=bx.at_.c0;have z1:=bx.at_.c1;have z2:=bx.at_.c2;have z3:=bx.at_.c3;have z4:=bx.at_.c4;have z5:=bx.at_.c5;have z6:=bx.at_.c11);go_ret;exact ⟨ret_bool (by rw [HR.out];first|(simp [*];done)|(simp [*];intros;omega)),by have:=bx.below;have:=bx.size;go_grown⟩
  by_cases e8:c.k=8
  case pos=>
    have f8:(c.k==8)=true:=by simp [e8]
    have f9:(c.k==9)=false:=by simp [e8]
    clear e8
    cases be with
    |true=>go_wp2_with (go_at_call 60;(with_reducible refine (Behind.at_ (HVS.out) ?_).mono ?_);(focus (have:=bx.below;have:=bx.size;go_grown));rintro e w1 ⟨rfl,hb1⟩;replace bx:=(bx.step (by go_grown)).step hb1;have zs:w.heap.size<w1.heap.size:=bx.size;have z0:=bx.at_.c0;have z1:=bx.at_.c1;have z2:=bx.at_.c2;have z3:=bx.at_.c3;have z4:=bx.at_.c4;have z5:=bx.at_.c5;have z6:=bx.at_.c11);go_ret;exact ⟨ret_bool (by rw [HR.out];first|(simp [*];done)|(simp [*];intros;omega)),by have:=bx.below;have:=bx.size;go_grown⟩
    |false=>
    go_wp2_with (go_at_call 60;(with_reducible refine (Behind.at_ (HVS.out) ?_).mono ?_);(focus (have:=bx.below;have:=bx.size;go_grown));rintro e w1 ⟨rfl,hb1⟩;replace bx:=(bx.step (by go_grown)).step hb1;have zs:w.heap.size<w1.heap.size:=bx.size;have z0:=bx.at_.c0;have z1:=bx.at_.c1;have z2:=bx.at_.c2;have z3:=bx.at_.c3;have z4:=bx.at_.c4;have z5:=bx.at_.c5;have z6:=bx.at_.c11)
    have a0:=later_cell bx.at_.c6.c0;have a1:=later_cell bx.at_.c6.c1;have a2:=later_cell bx.at_.c6.c2;have a3:=later_cell bx.at_.c6.c3;have a4:=later_cell bx.at_.c6.c4;have a5:=later_cell bx.at_.c1
    have hbx:=bx.below
    have hbs:=bx.size
    cases sd with
    | false=>
      refine wp_region_later (by kernel_rfl) (by kernel_rfl) ?_
      repeat (go_big_quiet_step ((first|(go_at_call 53;exact later_call (HSD.out _ (hbx.trans ((below_later _ _).mono (by omega)))))|(go_at_call 54;exact later_call (HDP.out _ (hbx.trans ((below_later _ _).mono (by omega)))))|(go_at_call 55;exact later_call (HWT.out _ (hbx.trans ((below_later _ _).mono (by omega))))))))
      refine wpQuiet_nil ?_
      intro _ hw'
      obtain ⟨pq,hw''⟩:=hw'
      subst hw''
      go_wp2_with fail
      go_ret
      exact ⟨ret_bool (by rw [HR.out];simp),hbx.trans ((below_later _ _).mono (by omega))⟩
    |true=>
    by_cases hd:c.pl+1+dp≤16
    case neg=>
      have hdI:¬((c.pl:Int)+1+(dp:Int)≤16):=by omega
      have hdB:decide ((c.pl:Int)+1+(dp:Int)≤16)=false:=by simpa using hdI
      refine wp_region_later (by kernel_rfl) (by kernel_rfl) ?_
      repeat (go_big_quiet_step ((first|(go_at_call 53;exact later_call (HSD.out _ (hbx.trans ((below_later _ _).mono (by omega)))))|(go_at_call 54;exact later_call (HDP.out _ (hbx.trans ((below_later _ _).mono (by omega)))))|(go_at_call 55;exact later_call (HWT.out _ (hbx.trans ((below_later _ _).mono (by omega))))))))
      refine wpQuiet_nil ?_
      intro _ hw'
      obtain ⟨pq,hw''⟩:=hw'
      subst hw''
      go_wp2_with fail
      go_ret
      exact ⟨ret_bool (by rw [HR.out];simp [hd]),hbx.trans ((below_later _ _).mono (by omega))⟩
    have hdI:(c.pl:Int)+1+(dp:Int)≤16:=by omega
    have hdB:decide ((c.pl:Int)+1+(dp:Int)≤16)=true:=by simpa using hdI
    refine wp_region_later (by kernel_rfl) (by kernel_rfl) ?_
    repeat (go_big_quiet_step ((first|(go_at_call 53;exact later_call (HSD.out _ (hbx.trans ((below_later _ _).mono (by omega)))))|(go_at_call 54;exact later_call (HDP.out _ (hbx.trans ((below_later _ _).mono (by omega)))))|(go_at_call 55;exact later_call (HWT.out _ (hbx.trans ((below_later _ _).mono (by omega))))))))
    refine wpQuiet_nil ?_
    intro _ hw'
    obtain ⟨pq,hw''⟩:=hw'
    subst hw''
    go_wp2_with fail
    go_ret
    exact ⟨ret_bool (by rw [HR.out];simp [*];try omega),hbx.trans ((below_later _ _).mono (by omega))⟩
  case neg=>
    have f8:(c.k==8)=false:=by simp [e8]
    clear e8
    by_cases e9:c.k=9
    case pos=>
      have f9:(c.k==9)=true:=by simp [e9]
      clear e9
      by_cases hn:c.n<1
      · go_wp2_with (go_at_call 60;(with_reducible refine (Behind.at_ (HVS.out) ?_).mono ?_);(focus (have:=bx.below;have:=bx.size;go_grown));rintro e w1 ⟨rfl,hb1⟩;replace bx:=(bx.step (by go_grown)).step hb1;have zs:w.heap.size<w1.heap.size:=bx.size;have z0:=bx.at_.c0;have z1:=bx.at_.c1;have z2:=bx.at_.c2;have z3:=bx.at_.c3;have z4:=bx.at_.c4;have z5:=bx.at_.c5;have z6:=bx.at_.c11);go_ret;exact ⟨ret_bool (by rw [HR.out];first|(simp [*];done)|(simp [*];intros;omega)),by have:=bx.below;have:=bx.size;go_grown⟩
      have hn2:decide (c.n<1)=false:=by simpa using hn
      go_wp2_with (go_at_call 60;(with_reducible refine (Behind.at_ (HVS.out) ?_).mono ?_);(focus (have:=bx.below;have:=bx.size;go_grown));rintro e w1 ⟨rfl,hb1⟩;replace bx:=(bx.step (by go_grown)).step hb1;have zs:w.heap.size<w1.heap.size:=bx.size;have z0:=bx.at_.c0;have z1:=bx.at_.c1;have z2:=bx.at_.c2;have z3:=bx.at_.c3;have z4:=bx.at_.c4;have z5:=bx.at_.c5;have z6:=bx.at_.c11)
      have a0:=later_cell bx.at_.c6.c0;have a1:=later_cell bx.at_.c6.c1;have a2:=later_cell bx.at_.c6.c2;have a3:=later_cell bx.at_.c6.c3;have a4:=later_cell bx.at_.c6.c4;have a5:=later_cell bx.at_.c1
      have hbx:=bx.below
      have hbs:=bx.size
      cases sd with
      | false=>
        refine wp_region_later (by kernel_rfl) (by kernel_rfl) ?_
        repeat (go_big_quiet_step ((first|(go_at_call 53;exact later_call (HSD.out _ (hbx.trans ((below_later _ _).mono (by omega)))))|(go_at_call 54;exact later_call (HDP.out _ (hbx.trans ((below_later _ _).mono (by omega)))))|(go_at_call 55;exact later_call (HWT.out _ (hbx.trans ((below_later _ _).mono (by omega))))))))
        refine wpQuiet_nil ?_
        intro _ hw'
        obtain ⟨pq,hw''⟩:=hw'
        subst hw''
        go_wp2_with fail
        go_ret
        exact ⟨ret_bool (by rw [HR.out];simp),hbx.trans ((below_later _ _).mono (by omega))⟩
      |true=>
      by_cases hd:c.pl+1+dp≤16
      case neg=>
        have hdI:¬((c.pl:Int)+1+(dp:Int)≤16):=by omega
        have hdB:decide ((c.pl:Int)+1+(dp:Int)≤16)=false:=by simpa using hdI
        refine wp_region_later (by kernel_rfl) (by kernel_rfl) ?_
        repeat (go_big_quiet_step ((first|(go_at_call 53;exact later_call (HSD.out _ (hbx.trans ((below_later _ _).mono (by omega)))))|(go_at_call 54;exact later_call (HDP.out _ (hbx.trans ((below_later _ _).mono (by omega)))))|(go_at_call 55;exact later_call (HWT.out _ (hbx.trans ((below_later _ _).mono (by omega))))))))
        refine wpQuiet_nil ?_
        intro _ hw'
        obtain ⟨pq,hw''⟩:=hw'
        subst hw''
        go_wp2_with fail
        go_ret
        exact ⟨ret_bool (by rw [HR.out];simp [hd]),hbx.trans ((below_later _ _).mono (by omega))⟩
      have hdI:(c.pl:Int)+1+(dp:Int)≤16:=by omega
      have hdB:decide ((c.pl:Int)+1+(dp:Int)≤16)=true:=by simpa using hdI
      refine wp_region_later (by kernel_rfl) (by kernel_rfl) ?_
      repeat (go_big_quiet_step ((first|(go_at_call 53;exact later_call (HSD.out _ (hbx.trans ((below_later _ _).mono (by omega)))))|(go_at_call 54;exact later_call (HDP.out _ (hbx.trans ((below_later _ _).mono (by omega)))))|(go_at_call 55;exact later_call (HWT.out _ (hbx.trans ((below_later _ _).mono (by omega))))))))
      refine wpQuiet_nil ?_
      intro _ hw'
      obtain ⟨pq,hw''⟩:=hw'
      subst hw''
      go_wp2_with fail
      go_ret
      exact ⟨ret_bool (by rw [HR.out];simp [*];try omega),hbx.trans ((below_later _ _).mono (by omega))⟩
    case neg=>
      have f9:(c.k==9)=false:=by simp [e9]
      clear e9
      go_wp2_with (go_at_call 60;(with_reducible refine (Behind.at_ (HVS.out) ?_).mono ?_);(focus (have:=bx.below;have:=bx.size;go_grown));rintro e w1 ⟨rfl,hb1⟩;replace bx:=(bx.step (by go_grown)).step hb1;have zs:w.heap.size<w1.heap.size:=bx.size;have z0:=bx.at_.c0;have z1:=bx.at_.c1;have z2:=bx.at_.c2;have z3:=bx.at_.c3;have z4:=bx.at_.c4;have z5:=bx.at_.c5;have z6:=bx.at_.c11)
      have a0:=later_cell bx.at_.c6.c0;have a1:=later_cell bx.at_.c6.c1;have a2:=later_cell bx.at_.c6.c2;have a3:=later_cell bx.at_.c6.c3;have a4:=later_cell bx.at_.c6.c4;have a5:=later_cell bx.at_.c1
      have hbx:=bx.below
      have hbs:=bx.size
      cases sd with
      | false=>
        refine wp_region_later (by kernel_rfl) (by kernel_rfl) ?_
        repeat (go_big_quiet_step ((first|(go_at_call 53;exact later_call (HSD.out _ (hbx.trans ((below_later _ _).mono (by omega)))))|(go_at_call 54;exact later_call (HDP.out _ (hbx.trans ((below_later _ _).mono (by omega)))))|(go_at_call 55;exact later_call (HWT.out _ (hbx.trans ((below_later _ _).mono (by omega))))))))
        refine wpQuiet_nil ?_
        intro _ hw'
        obtain ⟨pq,hw''⟩:=hw'
        subst hw''
        go_wp2_with fail
        go_ret
        exact ⟨ret_bool (by rw [HR.out];simp),hbx.trans ((below_later _ _).mono (by omega))⟩
      |true=>
      by_cases hd:c.pl+1+dp≤16
      case neg=>
        have hdI:¬((c.pl:Int)+1+(dp:Int)≤16):=by omega
        have hdB:decide ((c.pl:Int)+1+(dp:Int)≤16)=false:=by simpa using hdI
        refine wp_region_later (by kernel_rfl) (by kernel_rfl) ?_
        repeat (go_big_quiet_step ((first|(go_at_call 53;exact later_call (HSD.out _ (hbx.trans ((below_later _ _).mono (by omega)))))|(go_at_call 54;exact later_call (HDP.out _ (hbx.trans ((below_later _ _).mono (by omega)))))|(go_at_call 55;exact later_call (HWT.out _ (hbx.trans ((below_later _ _).mono (by omega))))))))
        refine wpQuiet_nil ?_
        intro _ hw'
        obtain ⟨pq,hw''⟩:=hw'
        subst hw''
        go_wp2_with fail
        go_ret
        exact ⟨ret_bool (by rw [HR.out];simp [hd]),hbx.trans ((below_later _ _).mono (by omega))⟩
      have hdI:(c.pl:Int)+1+(dp:Int)≤16:=by omega
      have hdB:decide ((c.pl:Int)+1+(dp:Int)≤16)=true:=by simpa using hdI
      refine wp_region_later (by kernel_rfl) (by kernel_rfl) ?_
      repeat (go_big_quiet_step ((first|(go_at_call 53;exact later_call (HSD.out _ (hbx.trans ((below_later _ _).mono (by omega)))))|(go_at_call 54;exact later_call (HDP.out _ (hbx.trans ((below_later _ _).mono (by omega)))))|(go_at_call 55;exact later_call (HWT.out _ (hbx.trans ((below_later _ _).mono (by omega))))))))
      refine wpQuiet_nil ?_
      intro _ hw'
      obtain ⟨pq,hw''⟩:=hw'
      subst hw''
      go_wp2_with fail
      go_ret
      exact ⟨ret_bool (by rw [HR.out];simp [*];try omega),hbx.trans ((below_later _ _).mono (by omega))⟩
end Go.Proofs.YtgcfhkceejcliaaGreatDoor
namespace Go.Proofs.YtgcfhkceejcliaaGreatDoor
open Go.RowKit
theorem empty_toList:ByteArray.empty.toList= [] :=by rw [ByteArray.toList_eq];rfl
theorem toList_nil_iff {s:ByteArray} :s.toList= [] ↔s= .empty:=by
  constructor
  · intro h;exact bytes_ext (by rw [h,empty_toList])
  · intro h;rw [h,empty_toList]
theorem bare_std (x:Cm):eqB x.bare ⟨x.k,x.path, .empty,0,0,0,V.none, .empty⟩=
    ((kKey x.k||(x.key.toList== [])) && (kI x.k||(x.i==0)) && (kJ x.k||(x.j==0)) && (kN x.k||(x.n==0)) && (kS x.k||(x.s.toList== [])) && (kV x.k||eqv x.v V.none)):=by
  apply Bool.eq_iff_iff.2
  simp only [Bool.and_eq_true,Bool.or_eq_true,beq_iff_eq,toList_nil_iff]
  constructor
  · intro h
    have h:=eq_of_eqB h
    simp only [Cm.bare] at h
    injection h with _ _ h1 h2 h3 h4 h5 h6
    refine ⟨⟨⟨⟨⟨?_, ?_⟩, ?_⟩, ?_⟩, ?_⟩, ?_⟩
    · by_cases e:kKey x.k=true
      · exact .inl e
      · exact .inr (by simpa [e] using h1)
    · by_cases e:kI x.k=true
      · exact .inl e
      · exact .inr (by simpa [e] using h2)
    · by_cases e:kJ x.k=true
      · exact .inl e
      · exact .inr (by simpa [e] using h3)
    · by_cases e:kN x.k=true
      · exact .inl e
      · exact .inr (by simpa [e] using h4)
    · by_cases e:kS x.k=true
      · exact .inl e
      · exact .inr (by simpa [e] using h6)
    · by_cases e:kV x.k=true
      · exact .inl e
      · exact .inr (eqv_yes (by simpa [e] using h5))
  · rintro ⟨⟨⟨⟨⟨h1,h2⟩,h3⟩,h4⟩,h5⟩,h6⟩
    apply eqB_yes
    simp only [Cm.bare]
    congr 1
    · rcases h1 with e|e<;>simp [e]
    · rcases h2 with e|e<;>simp [e]
    · rcases h3 with e|e<;>simp [e]
    · rcases h4 with e|e<;>simp [e]
    · rcases h6 with e|e
      · simp [e]
      · simp [eq_of_eqv e]
    · rcases h5 with e|e<;>simp [e]
def sndB (kn fK fI fJ fN fS fV bk i0 j0 n0 be vn ps vk vs i1 j1 k8 k9 sd dp wt:Bool):Bool:=
  kn && ((fK||bk) && (fI||i0) && (fJ||j0) && (fN||n0) && (fS||be) && (fV||vn)) && ps && vk && vs && i1 && j1 && !k8 && !k9 && sd && dp && wt
theorem cmSound_eq (x:Cm):cmSound x=sndB (kIs x.k) (kKey x.k) (kI x.k) (kJ x.k) (kN x.k) (kS x.k) (kV x.k) (x.key.toList== []) (x.i==0) (x.j==0) (x.n==0) (x.s.toList== []) (eqv x.v V.none)
    (pathSound x.path) (Lib.validD x.key.data.toList) (Lib.validD x.s.data.toList) (decide (0≤x.i)) (decide (0≤x.j)) (x.k==8 && (x.s.toList== [])) (x.k==9 && decide (x.n<1)) x.v.sound (decide (x.path.length+1+x.v.deep≤16)) (decide (x.v.weight≤20000)):=by
  unfold cmSound sndB
  rw [bare_std]
  have:x.s.toList.isEmpty=(x.s.toList== []):=by cases x.s.toList<;>rfl
  rw [this]
theorem bcT (b:Bool) {P:Prop} (h:P):b=false∨b=true∧P:=by cases b;exact .inl rfl;exact .inr ⟨rfl,h⟩
theorem bcF (b:Bool) {P:Prop} (h:P):b=true∨b=false∧P:=by cases b;exact .inr ⟨rfl,h⟩;exact .inl rfl
theorem bcP (p:Prop) [Decidable p] {P:Prop} (h:P):p∨¬p∧P:=by by_cases q:p;exact .inl q;exact .inr ⟨q,h⟩
theorem dec16 (a b:Nat):(¬(a+1+b≤16)∧¬((a:Int)+1+(b:Int)≤16)∧decide ((a:Int)+1+(b:Int)≤16)=false)∨(a+1+b≤16∧((a:Int)+1+(b:Int)≤16)∧decide ((a:Int)+1+(b:Int)≤16)=true):=by
  by_cases h:a+1+b≤16
  · have h2:(a:Int)+1+(b:Int)≤16:=by omega
    exact .inr ⟨h,h2,by simpa using h2⟩
  · have h2:¬((a:Int)+1+(b:Int)≤16):=by omega
    exact .inl ⟨h,h2,by simpa using h2⟩
theorem Boxed1C.all {w W:World} {c:CC} (h:Boxed1C w W c):w.heap.size<W.heap.size∧W.cell? ⟨w.heap.size,0,none⟩=some (.int .u8 c.k)∧W.cell? ⟨w.heap.size,1,none⟩=some (.slice c.pa c.pl c.pc)∧W.cell? ⟨w.heap.size,2,none⟩=some (.string c.key)∧W.cell? ⟨w.heap.size,3,none⟩=some (.int .i64 c.i)∧W.cell? ⟨w.heap.size,4,none⟩=some (.int .i64 c.j)∧W.cell? ⟨w.heap.size,5,none⟩=some (.int .i64 c.n)∧W.cell? ⟨w.heap.size,11,none⟩=some (.string c.s)∧W.cell? ⟨w.heap.size,6,none⟩=some (.int .u8 c.v.k)∧W.cell? ⟨w.heap.size,7,none⟩=some (.int .i64 c.v.n)∧W.cell? ⟨w.heap.size,8,none⟩=some (.string c.v.s)∧W.cell? ⟨w.heap.size,9,none⟩=some (.slice c.v.la c.v.ll c.v.lc)∧W.cell? ⟨w.heap.size,10,none⟩=some (.slice c.v.oa c.v.ol c.v.oc):=⟨by have:=h.size;omega,h.at_.c0,h.at_.c1,h.at_.c2,h.at_.c3,h.at_.c4,h.at_.c5,h.at_.c11,h.at_.c6.c0,h.at_.c6.c1,h.at_.c6.c2,h.at_.c6.c3,h.at_.c6.c4⟩
structure SndH (w:World) (c:CC) (R ps vk vs bk be i0 j0 n0 vn sd:Bool) (dp wt:Nat):Prop where
  hbk:(c.key.toList== [])=bk
  hbe:(c.s.toList== [])=be
  hi0:(c.i !=0)=i0
  hj0:(c.j !=0)=j0
  hn0:(c.n !=0)=n0
  HPS:Hid (Behind w 65 #[.slice c.pa c.pl c.pc] (.bool ps))
  HVK:Hid (Behind w 60 #[.string c.key] (.bool vk))
  HVS:Hid (Behind w 60 #[.string c.s] (.bool vs))
  HVN:Hid (Behind w 34 #[.agg #[.int .u8 c.v.k, .int .i64 c.v.n, .string c.v.s, .slice c.v.la c.v.ll c.v.lc, .slice c.v.oa c.v.ol c.v.oc], .agg #[.int .u8 0, .int .i64 0, .string { data:= #[] }, .slice none 0 0, .slice none 0 0]] (.bool vn))
  HSD:Hid (Behind w 61 #[.agg #[.int .u8 c.v.k, .int .i64 c.v.n, .string c.v.s, .slice c.v.la c.v.ll c.v.lc, .slice c.v.oa c.v.ol c.v.oc]] (.bool sd))
  HDP:Hid (Behind w 62 #[.agg #[.int .u8 c.v.k, .int .i64 c.v.n, .string c.v.s, .slice c.v.la c.v.ll c.v.lc, .slice c.v.oa c.v.ol c.v.oc]] (.int .i64 dp))
  HWT:Hid (Behind w 63 #[.agg #[.int .u8 c.v.k, .int .i64 c.v.n, .string c.v.s, .slice c.v.la c.v.ll c.v.lc, .slice c.v.oa c.v.ol c.v.oc]] (.int .i64 wt))
  HSAYS:Hid (Behind w 64 #[.int .u8 c.k] (.string (saysB c.k)))
  k:(c.pl:Int)≤140737488355328∧wt≤4611686018427387904∧dp≤4611686018427387904
  hR2:R=sndB (kIs c.k) (kKey c.k) (kI c.k) (kJ c.k) (kN c.k) (kS c.k) (kV c.k) bk (!i0) (!j0) (!n0) be vn ps vk vs (decide (0≤c.i)) (decide (0≤c.j)) (c.k==8 && be) (c.k==9 && decide (c.n<1)) sd (decide (c.pl+1+dp≤16)) (decide (wt≤20000))
theorem sndH_of (x:Cm) (w:World) (hT:Tabs w) (c:CC) (hx:IsComp w w.heap.size x c) (hw:x.v.weight≤4611686018427387904):∃ps vk vs bk be i0 j0 n0 vn sd dp wt,SndH w c (cmSound x) ps vk vs bk be i0 j0 n0 vn sd dp wt:=by
  cases hx with
  |mk c p v hb hp hv=>
  dsimp only at hw
  refine ⟨_,_,_,_,_,_,_,_,_,_,_,_,rfl,rfl,rfl,rfl,rfl,fun W hW=>refPathSound_any p W (hT.below hW) _ _ _ (hp.later_ hW),fun W hW=>valid_any c.key W hb.key1 (hT.below hW),fun W hW=>valid_any c.s W hb.s1 (hT.below hW),fun W hW=>refSame_any v V.none W c.v VC.none (hv.later_ hW) (isVal_none _ _),fun W hW=>refSound_any v W c.v (hv.later_ hW) (hT.below hW),fun W hW=>refDeep_any v W c.v (hv.later_ hW) hw,fun W hW=>refWeight_any v W c.v (hv.later_ hW) hw,fun W _=>says06_any c.k W, ?_, ?_⟩
  · have k1:=hp.few;have k2:=hp.max;have k3:=hp.cap;have:=v.deep_lt;omega
  · rw [cmSound_eq];simp only [hp.len,bne,Bool.not_not]
set_option maxHeartbeats 8000000 in
set_option maxRecDepth 100000 in
theorem ref06Sound0 (w:World) (c:CC) {R ps vk vs bk be i0 j0 n0 vn sd:Bool} {dp wt:Nat} (h:SndH w c R ps vk vs bk be i0 j0 n0 vn sd dp wt) (ek:kIs c.k=false):
    Calls Tryz.prog 36 #[.agg #[.int .u8 c.k, .slice c.pa c.pl c.pc, .string c.key, .int .i64 c.i, .int .i64 c.j, .int .i64 c.n, .int .u8 c.v.k, .int .i64 c.v.n, .string c.v.s, .slice c.v.la c.v.ll c.v.lc, .slice c.v.oa c.v.ol c.v.oc, .string c.s]] w fun e w'=>e= .returned (.bool R)∧Below w.heap.size w w':=by
  obtain ⟨hbk,hbe,hi0,hj0,hn0,HPS,HVK,HVS,HVN,HSD,HDP,HWT,HSAYS,⟨k1,k4,k5⟩,hR2⟩:=h
  have bx:=boxed1C_start w c 63
  have hR3:R=false:=by rw [hR2,ek];rfl
  have e1:saysB c.k= { data:= #[] } :=by
    simp only [kIs,Bool.and_eq_false_iff,decide_eq_false_iff_not] at ek
    unfold saysB
    repeat (first|rfl|rw [if_neg (by omega)])
  rw [e1] at HSAYS
  have HR:=Lib.hid hR3
  clear hR2 hR3 e1 ek
  go_enter Tryz.func36,Tryz.ntmps36
  go_wp2_with ((go_at_call 64;(with_reducible refine (Behind.at_ HSAYS.out ?_).mono ?_));(focus (have:=bx.below;have:=bx.size;go_grown));rintro e w1 ⟨rfl,hb1⟩;replace bx:=(bx.step (by go_grown)).step hb1;obtain ⟨zs,z0,z1,z2,z3,z4,z5,z6,y0,y1,y2,y3,y4⟩:=bx.all)
  go_ret
  exact ⟨ret_bool (by rw [HR.out]),by have:=bx.below;have:=bx.size;go_grown⟩
set_option maxHeartbeats 8000000 in
set_option maxRecDepth 100000 in
theorem ref06Sound1 (w:World) (c:CC) {R ps vk vs bk be i0 j0 n0 vn sd:Bool} {dp wt:Nat} (h:SndH w c R ps vk vs bk be i0 j0 n0 vn sd dp wt) (ek:c.k=1):
    Calls Tryz.prog 36 #[.agg #[.int .u8 c.k, .slice c.pa c.pl c.pc, .string c.key, .int .i64 c.i, .int .i64 c.j, .int .i64 c.n, .int .u8 c.v.k, .int .i64 c.v.n, .string c.v.s, .slice c.v.la c.v.ll c.v.lc, .slice c.v.oa c.v.ol c.v.oc, .string c.s]] w fun e w'=>e= .returned (.bool R)∧Below w.heap.size w w':=by
  obtain ⟨hbk,hbe,hi0,hj0,hn0,HPS,HVK,HVS,HVN,HSD,HDP,HWT,HSAYS,⟨k1,k4,k5⟩,hR2⟩:=h
  have bx:=boxed1C_start w c 63
  have e1:saysB c.k= { data:= #[78] } :=by rw [ek];rfl
  rw [e1] at HSAYS
  have HIN:∀(b:Nat) {t:Bool},hasB { data:= #[78] } b=t→Hid (Behind w 66 #[.string { data:= #[78] }, .int .u8 b] (.bool t)):=fun b t ht W _=>by rw [←ht];exact in06_any { data:= #[78] } b W (by decide)
  have hR3:R=sndB true false false false true false false bk (!i0) (!j0) (!n0) be vn ps vk vs (decide (0≤c.i)) (decide (0≤c.j)) false false sd (decide (c.pl+1+dp≤16)) (decide (wt≤20000)):=by
    rw [hR2,ek]
    first|rfl|(cases be<;>rfl)
  have HR:=Lib.hid hR3
  have f8:(c.k==8)=false:=by rw [ek];rfl
  have f9:(c.k==9)=false:=by rw [ek];rfl
  have HLK:Hid (Behind w 66 #[.string { data:= #[78] }, .int .u8 75] (.bool false)):=HIN 75 (by decide);have HLI:Hid (Behind w 66 #[.string { data:= #[78] }, .int .u8 73] (.bool false)):=HIN 73 (by decide);have HLJ:Hid (Behind w 66 #[.string { data:= #[78] }, .int .u8 74] (.bool false)):=HIN 74 (by decide);have HLN:Hid (Behind w 66 #[.string { data:= #[78] }, .int .u8 78] (.bool true)):=HIN 78 (by decide);have HLS:Hid (Behind w 66 #[.string { data:= #[78] }, .int .u8 83] (.bool false)):=HIN 83 (by decide);have HLV:Hid (Behind w 66 #[.string { data:= #[78] }, .int .u8 86] (.bool false)):=HIN 86 (by decide)
  clear hR2 hR3 e1 HIN ek
  go_enter Tryz.func36,Tryz.ntmps36
  go_wp2_with ((go_at_call 64;(with_reducible refine (Behind.at_ HSAYS.out ?_).mono ?_));(focus (have:=bx.below;have:=bx.size;go_grown));rintro e w1 ⟨rfl,hb1⟩;replace bx:=(bx.step (by go_grown)).step hb1;obtain ⟨zs,z0,z1,z2,z3,z4,z5,z6,y0,y1,y2,y3,y4⟩:=bx.all)
  rcases bcT ps (bcT bk (bcF i0 (bcF j0 (bcT be (bcT vn (bcT vk (bcT vs (bcP (c.i<0) (bcP (c.j<0) trivial))))))))) with rfl|⟨rfl,(rfl|⟨rfl,(rfl|⟨rfl,(rfl|⟨rfl,(rfl|⟨rfl,(rfl|⟨rfl,(rfl|⟨rfl,(rfl|⟨rfl,(hpi|⟨hpi,(hpj|⟨hpj,_⟩)⟩)⟩)⟩)⟩)⟩)⟩)⟩)⟩)⟩
  all_goals go_wp2_with ((first|(go_at_call 65;(with_reducible refine (Behind.at_ HPS.out ?_).mono ?_))|(go_at_call 66;(with_reducible refine (Behind.at_ HLK.out ?_).mono ?_))|(go_at_call 66;(with_reducible refine (Behind.at_ HLI.out ?_).mono ?_))|(go_at_call 66;(with_reducible refine (Behind.at_ HLJ.out ?_).mono ?_))|(go_at_call 66;(with_reducible refine (Behind.at_ HLN.out ?_).mono ?_))|(go_at_call 66;(with_reducible refine (Behind.at_ HLS.out ?_).mono ?_))|(go_at_call 66;(with_reducible refine (Behind.at_ HLV.out ?_).mono ?_))|(go_at_call 34;(with_reducible refine (Behind.at_ HVN.out ?_).mono ?_))|(go_at_call 60;(with_reducible refine (Behind.at_ HVK.out ?_).mono ?_))|(go_at_call 60;(with_reducible refine (Behind.at_ HVS.out ?_).mono ?_)));(focus (have:=bx.below;have:=bx.size;go_grown));rintro e w1 ⟨rfl,hb1⟩;replace bx:=(bx.step (by go_grown)).step hb1;obtain ⟨zs,z0,z1,z2,z3,z4,z5,z6,y0,y1,y2,y3,y4⟩:=bx.all)
  iterate 10 (focus (go_ret;exact ⟨ret_bool (by rw [HR.out];first|(simp [sndB, *];done)|(simp [sndB, *];intros;omega)),by have:=bx.below;have:=bx.size;go_grown⟩))
  have a0:=later_cell bx.at_.c6.c0;have a1:=later_cell bx.at_.c6.c1;have a2:=later_cell bx.at_.c6.c2;have a3:=later_cell bx.at_.c6.c3;have a4:=later_cell bx.at_.c6.c4;have a5:=later_cell bx.at_.c1
  have hbx:=bx.below
  have hbs:=bx.size
  rcases bcT sd (dec16 c.pl dp) with rfl|⟨rfl,(⟨hd,hdI,hdB⟩|⟨hd,hdI,hdB⟩)⟩
  all_goals
    refine wp_region_later (by kernel_rfl) (by kernel_rfl) ?_
    repeat (go_big_quiet_step ((first|(go_at_call 61;exact later_call (HSD.out _ (hbx.trans ((below_later _ _).mono (by omega)))))|(go_at_call 62;exact later_call (HDP.out _ (hbx.trans ((below_later _ _).mono (by omega)))))|(go_at_call 63;exact later_call (HWT.out _ (hbx.trans ((below_later _ _).mono (by omega))))))))
    refine wpQuiet_nil ?_
    intro _ hw'
    obtain ⟨pq,hw''⟩:=hw'
    subst hw''
    go_wp2_with fail
    go_ret
    exact ⟨ret_bool (by rw [HR.out];first|(simp [sndB, *];done)|(simp [sndB, *];intros;omega)),hbx.trans ((below_later _ _).mono (by omega))⟩
end Go.Proofs.YtgcfhkceejcliaaGreatDoor
namespace Go.Proofs.YtgcfhkceejcliaaGreatDoor
open Go.RowKit
set_option maxHeartbeats 8000000 in
set_option maxRecDepth 100000 in
theorem ref06Sound2 (w:World) (c:CC) {R ps vk vs bk be i0 j0 n0 vn sd:Bool} {dp wt:Nat} (h:SndH w c R ps vk vs bk be i0 j0 n0 vn sd dp wt) (ek:c.k=2):
    Calls Tryz.prog 36 #[.agg #[.int .u8 c.k, .slice c.pa c.pl c.pc, .string c.key, .int .i64 c.i, .int .i64 c.j, .int .i64 c.n, .int .u8 c.v.k, .int .i64 c.v.n, .string c.v.s, .slice c.v.la c.v.ll c.v.lc, .slice c.v.oa c.v.ol c.v.oc, .string c.s]] w fun e w'=>e= .returned (.bool R)∧Below w.heap.size w w':=by
  obtain ⟨hbk,hbe,hi0,hj0,hn0,HPS,HVK,HVS,HVN,HSD,HDP,HWT,HSAYS,⟨k1,k4,k5⟩,hR2⟩:=h
  have bx:=boxed1C_start w c 63
  have e1:saysB c.k= { data:= #[75,86] } :=by rw [ek];rfl
  rw [e1] at HSAYS
  have HIN:∀(b:Nat) {t:Bool},hasB { data:= #[75,86] } b=t→Hid (Behind w 66 #[.string { data:= #[75,86] }, .int .u8 b] (.bool t)):=fun b t ht W _=>by rw [←ht];exact in06_any { data:= #[75,86] } b W (by decide)
  have hR3:R=sndB true true false false false false true bk (!i0) (!j0) (!n0) be vn ps vk vs (decide (0≤c.i)) (decide (0≤c.j)) false false sd (decide (c.pl+1+dp≤16)) (decide (wt≤20000)):=by
    rw [hR2,ek]
    first|rfl|(cases be<;>rfl)
  have HR:=Lib.hid hR3
  have f8:(c.k==8)=false:=by rw [ek];rfl
  have f9:(c.k==9)=false:=by rw [ek];rfl
  have HLK:Hid (Behind w 66 #[.string { data:= #[75,86] }, .int .u8 75] (.bool true)):=HIN 75 (by decide);have HLI:Hid (Behind w 66 #[.string { data:= #[75,86] }, .int .u8 73] (.bool false)):=HIN 73 (by decide);have HLJ:Hid (Behind w 66 #[.string { data:= #[75,86] }, .int .u8 74] (.bool false)):=HIN 74 (by decide);have HLN:Hid (Behind w 66 #[.string { data:= #[75,86] }, .int .u8 78] (.bool false)):=HIN 78 (by decide);have HLS:Hid (Behind w 66 #[.string { data:= #[75,86] }, .int .u8 83] (.bool false)):=HIN 83 (by decide);have HLV:Hid (Behind w 66 #[.string { data:= #[75,86] }, .int .u8 86] (.bool true)):=HIN 86 (by decide)
  clear hR2 hR3 e1 HIN ek
  go_enter Tryz.func36,Tryz.ntmps36
  go_wp2_with ((go_at_call 64;(with_reducible refine (Behind.at_ HSAYS.out ?_).mono ?_));(focus (have:=bx.below;have:=bx.size;go_grown));rintro e w1 ⟨rfl,hb1⟩;replace bx:=(bx.step (by go_grown)).step hb1;obtain ⟨zs,z0,z1,z2,z3,z4,z5,z6,y0,y1,y2,y3,y4⟩:=bx.all)
  rcases bcT ps (bcF i0 (bcF j0 (bcF n0 (bcT be (bcT vk (bcT vs (bcP (c.i<0) (bcP (c.j<0) trivial)))))))) with rfl|⟨rfl,(rfl|⟨rfl,(rfl|⟨rfl,(rfl|⟨rfl,(rfl|⟨rfl,(rfl|⟨rfl,(rfl|⟨rfl,(hpi|⟨hpi,(hpj|⟨hpj,_⟩)⟩)⟩)⟩)⟩)⟩)⟩)⟩)⟩
  all_goals go_wp2_with ((first|(go_at_call 65;(with_reducible refine (Behind.at_ HPS.out ?_).mono ?_))|(go_at_call 66;(with_reducible refine (Behind.at_ HLK.out ?_).mono ?_))|(go_at_call 66;(with_reducible refine (Behind.at_ HLI.out ?_).mono ?_))|(go_at_call 66;(with_reducible refine (Behind.at_ HLJ.out ?_).mono ?_))|(go_at_call 66;(with_reducible refine (Behind.at_ HLN.out ?_).mono ?_))|(go_at_call 66;(with_reducible refine (Behind.at_ HLS.out ?_).mono ?_))|(go_at_call 66;(with_reducible refine (Behind.at_ HLV.out ?_).mono ?_))|(go_at_call 60;(with_reducible refine (Behind.at_ HVK.out ?_).mono ?_))|(go_at_call 60;(with_reducible refine (Behind.at_ HVS.out ?_).mono ?_)));(focus (have:=bx.below;have:=bx.size;go_grown));rintro e w1 ⟨rfl,hb1⟩;replace bx:=(bx.step (by go_grown)).step hb1;obtain ⟨zs,z0,z1,z2,z3,z4,z5,z6,y0,y1,y2,y3,y4⟩:=bx.all)
  iterate 9 (focus (go_ret;exact ⟨ret_bool (by rw [HR.out];first|(simp [sndB, *];done)|(simp [sndB, *];intros;omega)),by have:=bx.below;have:=bx.size;go_grown⟩))
  have a0:=later_cell bx.at_.c6.c0;have a1:=later_cell bx.at_.c6.c1;have a2:=later_cell bx.at_.c6.c2;have a3:=later_cell bx.at_.c6.c3;have a4:=later_cell bx.at_.c6.c4;have a5:=later_cell bx.at_.c1
  have hbx:=bx.below
  have hbs:=bx.size
  rcases bcT sd (dec16 c.pl dp) with rfl|⟨rfl,(⟨hd,hdI,hdB⟩|⟨hd,hdI,hdB⟩)⟩
  all_goals
    refine wp_region_later (by kernel_rfl) (by kernel_rfl) ?_
    repeat (go_big_quiet_step ((first|(go_at_call 61;exact later_call (HSD.out _ (hbx.trans ((below_later _ _).mono (by omega)))))|(go_at_call 62;exact later_call (HDP.out _ (hbx.trans ((below_later _ _).mono (by omega)))))|(go_at_call 63;exact later_call (HWT.out _ (hbx.trans ((below_later _ _).mono (by omega))))))))
    refine wpQuiet_nil ?_
    intro _ hw'
    obtain ⟨pq,hw''⟩:=hw'
    subst hw''
    go_wp2_with fail
    go_ret
    exact ⟨ret_bool (by rw [HR.out];first|(simp [sndB, *];done)|(simp [sndB, *];intros;omega)),hbx.trans ((below_later _ _).mono (by omega))⟩
set_option maxHeartbeats 8000000 in
set_option maxRecDepth 100000 in
theorem ref06Sound3 (w:World) (c:CC) {R ps vk vs bk be i0 j0 n0 vn sd:Bool} {dp wt:Nat} (h:SndH w c R ps vk vs bk be i0 j0 n0 vn sd dp wt) (ek:c.k=3):
    Calls Tryz.prog 36 #[.agg #[.int .u8 c.k, .slice c.pa c.pl c.pc, .string c.key, .int .i64 c.i, .int .i64 c.j, .int .i64 c.n, .int .u8 c.v.k, .int .i64 c.v.n, .string c.v.s, .slice c.v.la c.v.ll c.v.lc, .slice c.v.oa c.v.ol c.v.oc, .string c.s]] w fun e w'=>e= .returned (.bool R)∧Below w.heap.size w w':=by
  obtain ⟨hbk,hbe,hi0,hj0,hn0,HPS,HVK,HVS,HVN,HSD,HDP,HWT,HSAYS,⟨k1,k4,k5⟩,hR2⟩:=h
  have bx:=boxed1C_start w c 63
  have e1:saysB c.k= { data:= #[75] } :=by rw [ek];rfl
  rw [e1] at HSAYS
  have HIN:∀(b:Nat) {t:Bool},hasB { data:= #[75] } b=t→Hid (Behind w 66 #[.string { data:= #[75] }, .int .u8 b] (.bool t)):=fun b t ht W _=>by rw [←ht];exact in06_any { data:= #[75] } b W (by decide)
  have hR3:R=sndB true true false false false false false bk (!i0) (!j0) (!n0) be vn ps vk vs (decide (0≤c.i)) (decide (0≤c.j)) false false sd (decide (c.pl+1+dp≤16)) (decide (wt≤20000)):=by
    rw [hR2,ek]
    first|rfl|(cases be<;>rfl)
  have HR:=Lib.hid hR3
  have f8:(c.k==8)=false:=by rw [ek];rfl
  have f9:(c.k==9)=false:=by rw [ek];rfl
  have HLK:Hid (Behind w 66 #[.string { data:= #[75] }, .int .u8 75] (.bool true)):=HIN 75 (by decide);have HLI:Hid (Behind w 66 #[.string { data:= #[75] }, .int .u8 73] (.bool false)):=HIN 73 (by decide);have HLJ:Hid (Behind w 66 #[.string { data:= #[75] }, .int .u8 74] (.bool false)):=HIN 74 (by decide);have HLN:Hid (Behind w 66 #[.string { data:= #[75] }, .int .u8 78] (.bool false)):=HIN 78 (by decide);have HLS:Hid (Behind w 66 #[.string { data:= #[75] }, .int .u8 83] (.bool false)):=HIN 83 (by decide);have HLV:Hid (Behind w 66 #[.string { data:= #[75] }, .int .u8 86] (.bool false)):=HIN 86 (by decide)
  clear hR2 hR3 e1 HIN ek
  go_enter Tryz.func36,Tryz.ntmps36
  go_wp2_with ((go_at_call 64;(with_reducible refine (Behind.at_ HSAYS.out ?_).mono ?_));(focus (have:=bx.below;have:=bx.size;go_grown));rintro e w1 ⟨rfl,hb1⟩;replace bx:=(bx.step (by go_grown)).step hb1;obtain ⟨zs,z0,z1,z2,z3,z4,z5,z6,y0,y1,y2,y3,y4⟩:=bx.all)
  rcases bcT ps (bcF i0 (bcF j0 (bcF n0 (bcT be (bcT vn (bcT vk (bcT vs (bcP (c.i<0) (bcP (c.j<0) trivial))))))))) with rfl|⟨rfl,(rfl|⟨rfl,(rfl|⟨rfl,(rfl|⟨rfl,(rfl|⟨rfl,(rfl|⟨rfl,(rfl|⟨rfl,(rfl|⟨rfl,(hpi|⟨hpi,(hpj|⟨hpj,_⟩)⟩)⟩)⟩)⟩)⟩)⟩)⟩)⟩)⟩
  all_goals go_wp2_with ((first|(go_at_call 65;(with_reducible refine (Behind.at_ HPS.out ?_).mono ?_))|(go_at_call 66;(with_reducible refine (Behind.at_ HLK.out ?_).mono ?_))|(go_at_call 66;(with_reducible refine (Behind.at_ HLI.out ?_).mono ?_))|(go_at_call 66;(with_reducible refine (Behind.at_ HLJ.out ?_).mono ?_))|(go_at_call 66;(with_reducible refine (Behind.at_ HLN.out ?_).mono ?_))|(go_at_call 66;(with_reducible refine (Behind.at_ HLS.out ?_).mono ?_))|(go_at_call 66;(with_reducible refine (Behind.at_ HLV.out ?_).mono ?_))|(go_at_call 34;(with_reducible refine (Behind.at_ HVN.out ?_).mono ?_))|(go_at_call 60;(with_reducible refine (Behind.at_ HVK.out ?_).mono ?_))|(go_at_call 60;(with_reducible refine (Behind.at_ HVS.out ?_).mono ?_)));(focus (have:=bx.below;have:=bx.size;go_grown));rintro e w1 ⟨rfl,hb1⟩;replace bx:=(bx.step (by go_grown)).step hb1;obtain ⟨zs,z0,z1,z2,z3,z4,z5,z6,y0,y1,y2,y3,y4⟩:=bx.all)
  iterate 10 (focus (go_ret;exact ⟨ret_bool (by rw [HR.out];first|(simp [sndB, *];done)|(simp [sndB, *];intros;omega)),by have:=bx.below;have:=bx.size;go_grown⟩))
  have a0:=later_cell bx.at_.c6.c0;have a1:=later_cell bx.at_.c6.c1;have a2:=later_cell bx.at_.c6.c2;have a3:=later_cell bx.at_.c6.c3;have a4:=later_cell bx.at_.c6.c4;have a5:=later_cell bx.at_.c1
  have hbx:=bx.below
  have hbs:=bx.size
  rcases bcT sd (dec16 c.pl dp) with rfl|⟨rfl,(⟨hd,hdI,hdB⟩|⟨hd,hdI,hdB⟩)⟩
  all_goals
    refine wp_region_later (by kernel_rfl) (by kernel_rfl) ?_
    repeat (go_big_quiet_step ((first|(go_at_call 61;exact later_call (HSD.out _ (hbx.trans ((below_later _ _).mono (by omega)))))|(go_at_call 62;exact later_call (HDP.out _ (hbx.trans ((below_later _ _).mono (by omega)))))|(go_at_call 63;exact later_call (HWT.out _ (hbx.trans ((below_later _ _).mono (by omega))))))))
    refine wpQuiet_nil ?_
    intro _ hw'
    obtain ⟨pq,hw''⟩:=hw'
    subst hw''
    go_wp2_with fail
    go_ret
    exact ⟨ret_bool (by rw [HR.out];first|(simp [sndB, *];done)|(simp [sndB, *];intros;omega)),hbx.trans ((below_later _ _).mono (by omega))⟩
set_option maxHeartbeats 8000000 in
set_option maxRecDepth 100000 in
theorem ref06Sound4 (w:World) (c:CC) {R ps vk vs bk be i0 j0 n0 vn sd:Bool} {dp wt:Nat} (h:SndH w c R ps vk vs bk be i0 j0 n0 vn sd dp wt) (ek:c.k=4):
    Calls Tryz.prog 36 #[.agg #[.int .u8 c.k, .slice c.pa c.pl c.pc, .string c.key, .int .i64 c.i, .int .i64 c.j, .int .i64 c.n, .int .u8 c.v.k, .int .i64 c.v.n, .string c.v.s, .slice c.v.la c.v.ll c.v.lc, .slice c.v.oa c.v.ol c.v.oc, .string c.s]] w fun e w'=>e= .returned (.bool R)∧Below w.heap.size w w':=by
  obtain ⟨hbk,hbe,hi0,hj0,hn0,HPS,HVK,HVS,HVN,HSD,HDP,HWT,HSAYS,⟨k1,k4,k5⟩,hR2⟩:=h
  have bx:=boxed1C_start w c 63
  have e1:saysB c.k= { data:= #[73,86] } :=by rw [ek];rfl
  rw [e1] at HSAYS
  have HIN:∀(b:Nat) {t:Bool},hasB { data:= #[73,86] } b=t→Hid (Behind w 66 #[.string { data:= #[73,86] }, .int .u8 b] (.bool t)):=fun b t ht W _=>by rw [←ht];exact in06_any { data:= #[73,86] } b W (by decide)
  have hR3:R=sndB true false true false false false true bk (!i0) (!j0) (!n0) be vn ps vk vs (decide (0≤c.i)) (decide (0≤c.j)) false false sd (decide (c.pl+1+dp≤16)) (decide (wt≤20000)):=by
    rw [hR2,ek]
    first|rfl|(cases be<;>rfl)
  have HR:=Lib.hid hR3
  have f8:(c.k==8)=false:=by rw [ek];rfl
  have f9:(c.k==9)=false:=by rw [ek];rfl
  have HLK:Hid (Behind w 66 #[.string { data:= #[73,86] }, .int .u8 75] (.bool false)):=HIN 75 (by decide);have HLI:Hid (Behind w 66 #[.string { data:= #[73,86] }, .int .u8 73] (.bool true)):=HIN 73 (by decide);have HLJ:Hid (Behind w 66 #[.string { data:= #[73,86] }, .int .u8 74] (.bool false)):=HIN 74 (by decide);have HLN:Hid (Behind w 66 #[.string { data:= #[73,86] }, .int .u8 78] (.bool false)):=HIN 78 (by decide);have HLS:Hid (Behind w 66 #[.string { data:= #[73,86] }, .int .u8 83] (.bool false)):=HIN 83 (by decide);have HLV:Hid (Behind w 66 #[.string { data:= #[73,86] }, .int .u8 86] (.bool true)):=HIN 86 (by decide)
  clear hR2 hR3 e1 HIN ek
  go_enter Tryz.func36,Tryz.ntmps36
  go_wp2_with ((go_at_call 64;(with_reducible refine (Behind.at_ HSAYS.out ?_).mono ?_));(focus (have:=bx.below;have:=bx.size;go_grown));rintro e w1 ⟨rfl,hb1⟩;replace bx:=(bx.step (by go_grown)).step hb1;obtain ⟨zs,z0,z1,z2,z3,z4,z5,z6,y0,y1,y2,y3,y4⟩:=bx.all)
  rcases bcT ps (bcT bk (bcF j0 (bcF n0 (bcT be (bcT vk (bcT vs (bcP (c.i<0) (bcP (c.j<0) trivial)))))))) with rfl|⟨rfl,(rfl|⟨rfl,(rfl|⟨rfl,(rfl|⟨rfl,(rfl|⟨rfl,(rfl|⟨rfl,(rfl|⟨rfl,(hpi|⟨hpi,(hpj|⟨hpj,_⟩)⟩)⟩)⟩)⟩)⟩)⟩)⟩)⟩
  all_goals go_wp2_with ((first|(go_at_call 65;(with_reducible refine (Behind.at_ HPS.out ?_).mono ?_))|(go_at_call 66;(with_reducible refine (Behind.at_ HLK.out ?_).mono ?_))|(go_at_call 66;(with_reducible refine (Behind.at_ HLI.out ?_).mono ?_))|(go_at_call 66;(with_reducible refine (Behind.at_ HLJ.out ?_).mono ?_))|(go_at_call 66;(with_reducible refine (Behind.at_ HLN.out ?_).mono ?_))|(go_at_call 66;(with_reducible refine (Behind.at_ HLS.out ?_).mono ?_))|(go_at_call 66;(with_reducible refine (Behind.at_ HLV.out ?_).mono ?_))|(go_at_call 60;(with_reducible refine (Behind.at_ HVK.out ?_).mono ?_))|(go_at_call 60;(with_reducible refine (Behind.at_ HVS.out ?_).mono ?_)));(focus (have:=bx.below;have:=bx.size;go_grown));rintro e w1 ⟨rfl,hb1⟩;replace bx:=(bx.step (by go_grown)).step hb1;obtain ⟨zs,z0,z1,z2,z3,z4,z5,z6,y0,y1,y2,y3,y4⟩:=bx.all)
  iterate 9 (focus (go_ret;exact ⟨ret_bool (by rw [HR.out];first|(simp [sndB, *];done)|(simp [sndB, *];intros;omega)),by have:=bx.below;have:=bx.size;go_grown⟩))
  have a0:=later_cell bx.at_.c6.c0;have a1:=later_cell bx.at_.c6.c1;have a2:=later_cell bx.at_.c6.c2;have a3:=later_cell bx.at_.c6.c3;have a4:=later_cell bx.at_.c6.c4;have a5:=later_cell bx.at_.c1
  have hbx:=bx.below
  have hbs:=bx.size
  rcases bcT sd (dec16 c.pl dp) with rfl|⟨rfl,(⟨hd,hdI,hdB⟩|⟨hd,hdI,hdB⟩)⟩
  all_goals
    refine wp_region_later (by kernel_rfl) (by kernel_rfl) ?_
    repeat (go_big_quiet_step ((first|(go_at_call 61;exact later_call (HSD.out _ (hbx.trans ((below_later _ _).mono (by omega)))))|(go_at_call 62;exact later_call (HDP.out _ (hbx.trans ((below_later _ _).mono (by omega)))))|(go_at_call 63;exact later_call (HWT.out _ (hbx.trans ((below_later _ _).mono (by omega))))))))
    refine wpQuiet_nil ?_
    intro _ hw'
    obtain ⟨pq,hw''⟩:=hw'
    subst hw''
    go_wp2_with fail
    go_ret
    exact ⟨ret_bool (by rw [HR.out];first|(simp [sndB, *];done)|(simp [sndB, *];intros;omega)),hbx.trans ((below_later _ _).mono (by omega))⟩
set_option maxHeartbeats 8000000 in
set_option maxRecDepth 100000 in
theorem ref06Sound5 (w:World) (c:CC) {R ps vk vs bk be i0 j0 n0 vn sd:Bool} {dp wt:Nat} (h:SndH w c R ps vk vs bk be i0 j0 n0 vn sd dp wt) (ek:c.k=5):
    Calls Tryz.prog 36 #[.agg #[.int .u8 c.k, .slice c.pa c.pl c.pc, .string c.key, .int .i64 c.i, .int .i64 c.j, .int .i64 c.n, .int .u8 c.v.k, .int .i64 c.v.n, .string c.v.s, .slice c.v.la c.v.ll c.v.lc, .slice c.v.oa c.v.ol c.v.oc, .string c.s]] w fun e w'=>e= .returned (.bool R)∧Below w.heap.size w w':=by
  obtain ⟨hbk,hbe,hi0,hj0,hn0,HPS,HVK,HVS,HVN,HSD,HDP,HWT,HSAYS,⟨k1,k4,k5⟩,hR2⟩:=h
  have bx:=boxed1C_start w c 63
  have e1:saysB c.k= { data:= #[73] } :=by rw [ek];rfl
  rw [e1] at HSAYS
  have HIN:∀(b:Nat) {t:Bool},hasB { data:= #[73] } b=t→Hid (Behind w 66 #[.string { data:= #[73] }, .int .u8 b] (.bool t)):=fun b t ht W _=>by rw [←ht];exact in06_any { data:= #[73] } b W (by decide)
  have hR3:R=sndB true false true false false false false bk (!i0) (!j0) (!n0) be vn ps vk vs (decide (0≤c.i)) (decide (0≤c.j)) false false sd (decide (c.pl+1+dp≤16)) (decide (wt≤20000)):=by
    rw [hR2,ek]
    first|rfl|(cases be<;>rfl)
  have HR:=Lib.hid hR3
  have f8:(c.k==8)=false:=by rw [ek];rfl
  have f9:(c.k==9)=false:=by rw [ek];rfl
  have HLK:Hid (Behind w 66 #[.string { data:= #[73] }, .int .u8 75] (.bool false)):=HIN 75 (by decide);have HLI:Hid (Behind w 66 #[.string { data:= #[73] }, .int .u8 73] (.bool true)):=HIN 73 (by decide);have HLJ:Hid (Behind w 66 #[.string { data:= #[73] }, .int .u8 74] (.bool false)):=HIN 74 (by decide);have HLN:Hid (Behind w 66 #[.string { data:= #[73] }, .int .u8 78] (.bool false)):=HIN 78 (by decide);have HLS:Hid (Behind w 66 #[.string { data:= #[73] }, .int .u8 83] (.bool false)):=HIN 83 (by decide);have HLV:Hid (Behind w 66 #[.string { data:= #[73] }, .int .u8 86] (.bool false)):=HIN 86 (by decide)
  clear hR2 hR3 e1 HIN ek
  go_enter Tryz.func36,Tryz.ntmps36
  go_wp2_with ((go_at_call 64;(with_reducible refine (Behind.at_ HSAYS.out ?_).mono ?_));(focus (have:=bx.below;have:=bx.size;go_grown));rintro e w1 ⟨rfl,hb1⟩;replace bx:=(bx.step (by go_grown)).step hb1;obtain ⟨zs,z0,z1,z2,z3,z4,z5,z6,y0,y1,y2,y3,y4⟩:=bx.all)
  rcases bcT ps (bcT bk (bcF j0 (bcF n0 (bcT be (bcT vn (bcT vk (bcT vs (bcP (c.i<0) (bcP (c.j<0) trivial))))))))) with rfl|⟨rfl,(rfl|⟨rfl,(rfl|⟨rfl,(rfl|⟨rfl,(rfl|⟨rfl,(rfl|⟨rfl,(rfl|⟨rfl,(rfl|⟨rfl,(hpi|⟨hpi,(hpj|⟨hpj,_⟩)⟩)⟩)⟩)⟩)⟩)⟩)⟩)⟩)⟩
  all_goals go_wp2_with ((first|(go_at_call 65;(with_reducible refine (Behind.at_ HPS.out ?_).mono ?_))|(go_at_call 66;(with_reducible refine (Behind.at_ HLK.out ?_).mono ?_))|(go_at_call 66;(with_reducible refine (Behind.at_ HLI.out ?_).mono ?_))|(go_at_call 66;(with_reducible refine (Behind.at_ HLJ.out ?_).mono ?_))|(go_at_call 66;(with_reducible refine (Behind.at_ HLN.out ?_).mono ?_))|(go_at_call 66;(with_reducible refine (Behind.at_ HLS.out ?_).mono ?_))|(go_at_call 66;(with_reducible refine (Behind.at_ HLV.out ?_).mono ?_))|(go_at_call 34;(with_reducible refine (Behind.at_ HVN.out ?_).mono ?_))|(go_at_call 60;(with_reducible refine (Behind.at_ HVK.out ?_).mono ?_))|(go_at_call 60;(with_reducible refine (Behind.at_ HVS.out ?_).mono ?_)));(focus (have:=bx.below;have:=bx.size;go_grown));rintro e w1 ⟨rfl,hb1⟩;replace bx:=(bx.step (by go_grown)).step hb1;obtain ⟨zs,z0,z1,z2,z3,z4,z5,z6,y0,y1,y2,y3,y4⟩:=bx.all)
  iterate 10 (focus (go_ret;exact ⟨ret_bool (by rw [HR.out];first|(simp [sndB, *];done)|(simp [sndB, *];intros;omega)),by have:=bx.below;have:=bx.size;go_grown⟩))
  have a0:=later_cell bx.at_.c6.c0;have a1:=later_cell bx.at_.c6.c1;have a2:=later_cell bx.at_.c6.c2;have a3:=later_cell bx.at_.c6.c3;have a4:=later_cell bx.at_.c6.c4;have a5:=later_cell bx.at_.c1
  have hbx:=bx.below
  have hbs:=bx.size
  rcases bcT sd (dec16 c.pl dp) with rfl|⟨rfl,(⟨hd,hdI,hdB⟩|⟨hd,hdI,hdB⟩)⟩
  all_goals
    refine wp_region_later (by kernel_rfl) (by kernel_rfl) ?_
    repeat (go_big_quiet_step ((first|(go_at_call 61;exact later_call (HSD.out _ (hbx.trans ((below_later _ _).mono (by omega)))))|(go_at_call 62;exact later_call (HDP.out _ (hbx.trans ((below_later _ _).mono (by omega)))))|(go_at_call 63;exact later_call (HWT.out _ (hbx.trans ((below_later _ _).mono (by omega))))))))
    refine wpQuiet_nil ?_
    intro _ hw'
    obtain ⟨pq,hw''⟩:=hw'
    subst hw''
    go_wp2_with fail
    go_ret
    exact ⟨ret_bool (by rw [HR.out];first|(simp [sndB, *];done)|(simp [sndB, *];intros;omega)),hbx.trans ((below_later _ _).mono (by omega))⟩
end Go.Proofs.YtgcfhkceejcliaaGreatDoor
namespace Go.Proofs.YtgcfhkceejcliaaGreatDoor
open Go.RowKit
set_option maxHeartbeats 8000000 in
set_option maxRecDepth 100000 in
theorem ref06Sound6 (w:World) (c:CC) {R ps vk vs bk be i0 j0 n0 vn sd:Bool} {dp wt:Nat} (h:SndH w c R ps vk vs bk be i0 j0 n0 vn sd dp wt) (ek:c.k=6):
    Calls Tryz.prog 36 #[.agg #[.int .u8 c.k, .slice c.pa c.pl c.pc, .string c.key, .int .i64 c.i, .int .i64 c.j, .int .i64 c.n, .int .u8 c.v.k, .int .i64 c.v.n, .string c.v.s, .slice c.v.la c.v.ll c.v.lc, .slice c.v.oa c.v.ol c.v.oc, .string c.s]] w fun e w'=>e= .returned (.bool R)∧Below w.heap.size w w':=by
  obtain ⟨hbk,hbe,hi0,hj0,hn0,HPS,HVK,HVS,HVN,HSD,HDP,HWT,HSAYS,⟨k1,k4,k5⟩,hR2⟩:=h
  have bx:=boxed1C_start w c 63
  have e1:saysB c.k= { data:= #[73,86] } :=by rw [ek];rfl
  rw [e1] at HSAYS
  have HIN:∀(b:Nat) {t:Bool},hasB { data:= #[73,86] } b=t→Hid (Behind w 66 #[.string { data:= #[73,86] }, .int .u8 b] (.bool t)):=fun b t ht W _=>by rw [←ht];exact in06_any { data:= #[73,86] } b W (by decide)
  have hR3:R=sndB true false true false false false true bk (!i0) (!j0) (!n0) be vn ps vk vs (decide (0≤c.i)) (decide (0≤c.j)) false false sd (decide (c.pl+1+dp≤16)) (decide (wt≤20000)):=by
    rw [hR2,ek]
    first|rfl|(cases be<;>rfl)
  have HR:=Lib.hid hR3
  have f8:(c.k==8)=false:=by rw [ek];rfl
  have f9:(c.k==9)=false:=by rw [ek];rfl
  have HLK:Hid (Behind w 66 #[.string { data:= #[73,86] }, .int .u8 75] (.bool false)):=HIN 75 (by decide);have HLI:Hid (Behind w 66 #[.string { data:= #[73,86] }, .int .u8 73] (.bool true)):=HIN 73 (by decide);have HLJ:Hid (Behind w 66 #[.string { data:= #[73,86] }, .int .u8 74] (.bool false)):=HIN 74 (by decide);have HLN:Hid (Behind w 66 #[.string { data:= #[73,86] }, .int .u8 78] (.bool false)):=HIN 78 (by decide);have HLS:Hid (Behind w 66 #[.string { data:= #[73,86] }, .int .u8 83] (.bool false)):=HIN 83 (by decide);have HLV:Hid (Behind w 66 #[.string { data:= #[73,86] }, .int .u8 86] (.bool true)):=HIN 86 (by decide)
  clear hR2 hR3 e1 HIN ek
  go_enter Tryz.func36,Tryz.ntmps36
  go_wp2_with ((go_at_call 64;(with_reducible refine (Behind.at_ HSAYS.out ?_).mono ?_));(focus (have:=bx.below;have:=bx.size;go_grown));rintro e w1 ⟨rfl,hb1⟩;replace bx:=(bx.step (by go_grown)).step hb1;obtain ⟨zs,z0,z1,z2,z3,z4,z5,z6,y0,y1,y2,y3,y4⟩:=bx.all)
  rcases bcT ps (bcT bk (bcF j0 (bcF n0 (bcT be (bcT vk (bcT vs (bcP (c.i<0) (bcP (c.j<0) trivial)))))))) with rfl|⟨rfl,(rfl|⟨rfl,(rfl|⟨rfl,(rfl|⟨rfl,(rfl|⟨rfl,(rfl|⟨rfl,(rfl|⟨rfl,(hpi|⟨hpi,(hpj|⟨hpj,_⟩)⟩)⟩)⟩)⟩)⟩)⟩)⟩)⟩
  all_goals go_wp2_with ((first|(go_at_call 65;(with_reducible refine (Behind.at_ HPS.out ?_).mono ?_))|(go_at_call 66;(with_reducible refine (Behind.at_ HLK.out ?_).mono ?_))|(go_at_call 66;(with_reducible refine (Behind.at_ HLI.out ?_).mono ?_))|(go_at_call 66;(with_reducible refine (Behind.at_ HLJ.out ?_).mono ?_))|(go_at_call 66;(with_reducible refine (Behind.at_ HLN.out ?_).mono ?_))|(go_at_call 66;(with_reducible refine (Behind.at_ HLS.out ?_).mono ?_))|(go_at_call 66;(with_reducible refine (Behind.at_ HLV.out ?_).mono ?_))|(go_at_call 60;(with_reducible refine (Behind.at_ HVK.out ?_).mono ?_))|(go_at_call 60;(with_reducible refine (Behind.at_ HVS.out ?_).mono ?_)));(focus (have:=bx.below;have:=bx.size;go_grown));rintro e w1 ⟨rfl,hb1⟩;replace bx:=(bx.step (by go_grown)).step hb1;obtain ⟨zs,z0,z1,z2,z3,z4,z5,z6,y0,y1,y2,y3,y4⟩:=bx.all)
  iterate 9 (focus (go_ret;exact ⟨ret_bool (by rw [HR.out];first|(simp [sndB, *];done)|(simp [sndB, *];intros;omega)),by have:=bx.below;have:=bx.size;go_grown⟩))
  have a0:=later_cell bx.at_.c6.c0;have a1:=later_cell bx.at_.c6.c1;have a2:=later_cell bx.at_.c6.c2;have a3:=later_cell bx.at_.c6.c3;have a4:=later_cell bx.at_.c6.c4;have a5:=later_cell bx.at_.c1
  have hbx:=bx.below
  have hbs:=bx.size
  rcases bcT sd (dec16 c.pl dp) with rfl|⟨rfl,(⟨hd,hdI,hdB⟩|⟨hd,hdI,hdB⟩)⟩
  all_goals
    refine wp_region_later (by kernel_rfl) (by kernel_rfl) ?_
    repeat (go_big_quiet_step ((first|(go_at_call 61;exact later_call (HSD.out _ (hbx.trans ((below_later _ _).mono (by omega)))))|(go_at_call 62;exact later_call (HDP.out _ (hbx.trans ((below_later _ _).mono (by omega)))))|(go_at_call 63;exact later_call (HWT.out _ (hbx.trans ((below_later _ _).mono (by omega))))))))
    refine wpQuiet_nil ?_
    intro _ hw'
    obtain ⟨pq,hw''⟩:=hw'
    subst hw''
    go_wp2_with fail
    go_ret
    exact ⟨ret_bool (by rw [HR.out];first|(simp [sndB, *];done)|(simp [sndB, *];intros;omega)),hbx.trans ((below_later _ _).mono (by omega))⟩
set_option maxHeartbeats 8000000 in
set_option maxRecDepth 100000 in
theorem ref06Sound7 (w:World) (c:CC) {R ps vk vs bk be i0 j0 n0 vn sd:Bool} {dp wt:Nat} (h:SndH w c R ps vk vs bk be i0 j0 n0 vn sd dp wt) (ek:c.k=7):
    Calls Tryz.prog 36 #[.agg #[.int .u8 c.k, .slice c.pa c.pl c.pc, .string c.key, .int .i64 c.i, .int .i64 c.j, .int .i64 c.n, .int .u8 c.v.k, .int .i64 c.v.n, .string c.v.s, .slice c.v.la c.v.ll c.v.lc, .slice c.v.oa c.v.ol c.v.oc, .string c.s]] w fun e w'=>e= .returned (.bool R)∧Below w.heap.size w w':=by
  obtain ⟨hbk,hbe,hi0,hj0,hn0,HPS,HVK,HVS,HVN,HSD,HDP,HWT,HSAYS,⟨k1,k4,k5⟩,hR2⟩:=h
  have bx:=boxed1C_start w c 63
  have e1:saysB c.k= { data:= #[73,74] } :=by rw [ek];rfl
  rw [e1] at HSAYS
  have HIN:∀(b:Nat) {t:Bool},hasB { data:= #[73,74] } b=t→Hid (Behind w 66 #[.string { data:= #[73,74] }, .int .u8 b] (.bool t)):=fun b t ht W _=>by rw [←ht];exact in06_any { data:= #[73,74] } b W (by decide)
  have hR3:R=sndB true false true true false false false bk (!i0) (!j0) (!n0) be vn ps vk vs (decide (0≤c.i)) (decide (0≤c.j)) false false sd (decide (c.pl+1+dp≤16)) (decide (wt≤20000)):=by
    rw [hR2,ek]
    first|rfl|(cases be<;>rfl)
  have HR:=Lib.hid hR3
  have f8:(c.k==8)=false:=by rw [ek];rfl
  have f9:(c.k==9)=false:=by rw [ek];rfl
  have HLK:Hid (Behind w 66 #[.string { data:= #[73,74] }, .int .u8 75] (.bool false)):=HIN 75 (by decide);have HLI:Hid (Behind w 66 #[.string { data:= #[73,74] }, .int .u8 73] (.bool true)):=HIN 73 (by decide);have HLJ:Hid (Behind w 66 #[.string { data:= #[73,74] }, .int .u8 74] (.bool true)):=HIN 74 (by decide);have HLN:Hid (Behind w 66 #[.string { data:= #[73,74] }, .int .u8 78] (.bool false)):=HIN 78 (by decide);have HLS:Hid (Behind w 66 #[.string { data:= #[73,74] }, .int .u8 83] (.bool false)):=HIN 83 (by decide);have HLV:Hid (Behind w 66 #[.string { data:= #[73,74] }, .int .u8 86] (.bool false)):=HIN 86 (by decide)
  clear hR2 hR3 e1 HIN ek
  go_enter Tryz.func36,Tryz.ntmps36
  go_wp2_with ((go_at_call 64;(with_reducible refine (Behind.at_ HSAYS.out ?_).mono ?_));(focus (have:=bx.below;have:=bx.size;go_grown));rintro e w1 ⟨rfl,hb1⟩;replace bx:=(bx.step (by go_grown)).step hb1;obtain ⟨zs,z0,z1,z2,z3,z4,z5,z6,y0,y1,y2,y3,y4⟩:=bx.all)
  rcases bcT ps (bcT bk (bcF n0 (bcT be (bcT vn (bcT vk (bcT vs (bcP (c.i<0) (bcP (c.j<0) trivial)))))))) with rfl|⟨rfl,(rfl|⟨rfl,(rfl|⟨rfl,(rfl|⟨rfl,(rfl|⟨rfl,(rfl|⟨rfl,(rfl|⟨rfl,(hpi|⟨hpi,(hpj|⟨hpj,_⟩)⟩)⟩)⟩)⟩)⟩)⟩)⟩)⟩
  all_goals go_wp2_with ((first|(go_at_call 65;(with_reducible refine (Behind.at_ HPS.out ?_).mono ?_))|(go_at_call 66;(with_reducible refine (Behind.at_ HLK.out ?_).mono ?_))|(go_at_call 66;(with_reducible refine (Behind.at_ HLI.out ?_).mono ?_))|(go_at_call 66;(with_reducible refine (Behind.at_ HLJ.out ?_).mono ?_))|(go_at_call 66;(with_reducible refine (Behind.at_ HLN.out ?_).mono ?_))|(go_at_call 66;(with_reducible refine (Behind.at_ HLS.out ?_).mono ?_))|(go_at_call 66;(with_reducible refine (Behind.at_ HLV.out ?_).mono ?_))|(go_at_call 34;(with_reducible refine (Behind.at_ HVN.out ?_).mono ?_))|(go_at_call 60;(with_reducible refine (Behind.at_ HVK.out ?_).mono ?_))|(go_at_call 60;(with_reducible refine (Behind.at_ HVS.out ?_).mono ?_)));(focus (have:=bx.below;have:=bx.size;go_grown));rintro e w1 ⟨rfl,hb1⟩;replace bx:=(bx.step (by go_grown)).step hb1;obtain ⟨zs,z0,z1,z2,z3,z4,z5,z6,y0,y1,y2,y3,y4⟩:=bx.all)
  iterate 9 (focus (go_ret;exact ⟨ret_bool (by rw [HR.out];first|(simp [sndB, *];done)|(simp [sndB, *];intros;omega)),by have:=bx.below;have:=bx.size;go_grown⟩))
  have a0:=later_cell bx.at_.c6.c0;have a1:=later_cell bx.at_.c6.c1;have a2:=later_cell bx.at_.c6.c2;have a3:=later_cell bx.at_.c6.c3;have a4:=later_cell bx.at_.c6.c4;have a5:=later_cell bx.at_.c1
  have hbx:=bx.below
  have hbs:=bx.size
  rcases bcT sd (dec16 c.pl dp) with rfl|⟨rfl,(⟨hd,hdI,hdB⟩|⟨hd,hdI,hdB⟩)⟩
  all_goals
    refine wp_region_later (by kernel_rfl) (by kernel_rfl) ?_
    repeat (go_big_quiet_step ((first|(go_at_call 61;exact later_call (HSD.out _ (hbx.trans ((below_later _ _).mono (by omega)))))|(go_at_call 62;exact later_call (HDP.out _ (hbx.trans ((below_later _ _).mono (by omega)))))|(go_at_call 63;exact later_call (HWT.out _ (hbx.trans ((below_later _ _).mono (by omega))))))))
    refine wpQuiet_nil ?_
    intro _ hw'
    obtain ⟨pq,hw''⟩:=hw'
    subst hw''
    go_wp2_with fail
    go_ret
    exact ⟨ret_bool (by rw [HR.out];first|(simp [sndB, *];done)|(simp [sndB, *];intros;omega)),hbx.trans ((below_later _ _).mono (by omega))⟩
set_option maxHeartbeats 8000000 in
set_option maxRecDepth 100000 in
theorem ref06Sound8 (w:World) (c:CC) {R ps vk vs bk be i0 j0 n0 vn sd:Bool} {dp wt:Nat} (h:SndH w c R ps vk vs bk be i0 j0 n0 vn sd dp wt) (ek:c.k=8):
    Calls Tryz.prog 36 #[.agg #[.int .u8 c.k, .slice c.pa c.pl c.pc, .string c.key, .int .i64 c.i, .int .i64 c.j, .int .i64 c.n, .int .u8 c.v.k, .int .i64 c.v.n, .string c.v.s, .slice c.v.la c.v.ll c.v.lc, .slice c.v.oa c.v.ol c.v.oc, .string c.s]] w fun e w'=>e= .returned (.bool R)∧Below w.heap.size w w':=by
  obtain ⟨hbk,hbe,hi0,hj0,hn0,HPS,HVK,HVS,HVN,HSD,HDP,HWT,HSAYS,⟨k1,k4,k5⟩,hR2⟩:=h
  have bx:=boxed1C_start w c 63
  have e1:saysB c.k= { data:= #[73,83] } :=by rw [ek];rfl
  rw [e1] at HSAYS
  have HIN:∀(b:Nat) {t:Bool},hasB { data:= #[73,83] } b=t→Hid (Behind w 66 #[.string { data:= #[73,83] }, .int .u8 b] (.bool t)):=fun b t ht W _=>by rw [←ht];exact in06_any { data:= #[73,83] } b W (by decide)
  have hR3:R=sndB true false true false false true false bk (!i0) (!j0) (!n0) be vn ps vk vs (decide (0≤c.i)) (decide (0≤c.j)) be false sd (decide (c.pl+1+dp≤16)) (decide (wt≤20000)):=by
    rw [hR2,ek]
    first|rfl|(cases be<;>rfl)
  have HR:=Lib.hid hR3
  have f8:(c.k==8)=true:=by rw [ek];rfl
  have f9:(c.k==9)=false:=by rw [ek];rfl
  have HLK:Hid (Behind w 66 #[.string { data:= #[73,83] }, .int .u8 75] (.bool false)):=HIN 75 (by decide);have HLI:Hid (Behind w 66 #[.string { data:= #[73,83] }, .int .u8 73] (.bool true)):=HIN 73 (by decide);have HLJ:Hid (Behind w 66 #[.string { data:= #[73,83] }, .int .u8 74] (.bool false)):=HIN 74 (by decide);have HLN:Hid (Behind w 66 #[.string { data:= #[73,83] }, .int .u8 78] (.bool false)):=HIN 78 (by decide);have HLS:Hid (Behind w 66 #[.string { data:= #[73,83] }, .int .u8 83] (.bool true)):=HIN 83 (by decide);have HLV:Hid (Behind w 66 #[.string { data:= #[73,83] }, .int .u8 86] (.bool false)):=HIN 86 (by decide)
  clear hR2 hR3 e1 HIN ek
  go_enter Tryz.func36,Tryz.ntmps36
  go_wp2_with ((go_at_call 64;(with_reducible refine (Behind.at_ HSAYS.out ?_).mono ?_));(focus (have:=bx.below;have:=bx.size;go_grown));rintro e w1 ⟨rfl,hb1⟩;replace bx:=(bx.step (by go_grown)).step hb1;obtain ⟨zs,z0,z1,z2,z3,z4,z5,z6,y0,y1,y2,y3,y4⟩:=bx.all)
  rcases bcT ps (bcT bk (bcF j0 (bcF n0 (bcT vn (bcT vk (bcT vs (bcP (c.i<0) (bcP (c.j<0) (bcF be trivial))))))))) with rfl|⟨rfl,(rfl|⟨rfl,(rfl|⟨rfl,(rfl|⟨rfl,(rfl|⟨rfl,(rfl|⟨rfl,(rfl|⟨rfl,(hpi|⟨hpi,(hpj|⟨hpj,(rfl|⟨rfl,_⟩)⟩)⟩)⟩)⟩)⟩)⟩)⟩)⟩)⟩
  all_goals go_wp2_with ((first|(go_at_call 65;(with_reducible refine (Behind.at_ HPS.out ?_).mono ?_))|(go_at_call 66;(with_reducible refine (Behind.at_ HLK.out ?_).mono ?_))|(go_at_call 66;(with_reducible refine (Behind.at_ HLI.out ?_).mono ?_))|(go_at_call 66;(with_reducible refine (Behind.at_ HLJ.out ?_).mono ?_))|(go_at_call 66;(with_reducible refine (Behind.at_ HLN.out ?_).mono ?_))|(go_at_call 66;(with_reducible refine (Behind.at_ HLS.out ?_).mono ?_))|(go_at_call 66;(with_reducible refine (Behind.at_ HLV.out ?_).mono ?_))|(go_at_call 34;(with_reducible refine (Behind.at_ HVN.out ?_).mono ?_))|(go_at_call 60;(with_reducible refine (Behind.at_ HVK.out ?_).mono ?_))|(go_at_call 60;(with_reducible refine (Behind.at_ HVS.out ?_).mono ?_)));(focus (have:=bx.below;have:=bx.size;go_grown));rintro e w1 ⟨rfl,hb1⟩;replace bx:=(bx.step (by go_grown)).step hb1;obtain ⟨zs,z0,z1,z2,z3,z4,z5,z6,y0,y1,y2,y3,y4⟩:=bx.all)
  iterate 10 (focus (go_ret;exact ⟨ret_bool (by rw [HR.out];first|(simp [sndB, *];done)|(simp [sndB, *];intros;omega)),by have:=bx.below;have:=bx.size;go_grown⟩))
  have a0:=later_cell bx.at_.c6.c0;have a1:=later_cell bx.at_.c6.c1;have a2:=later_cell bx.at_.c6.c2;have a3:=later_cell bx.at_.c6.c3;have a4:=later_cell bx.at_.c6.c4;have a5:=later_cell bx.at_.c1
  have hbx:=bx.below
  have hbs:=bx.size
  rcases bcT sd (dec16 c.pl dp) with rfl|⟨rfl,(⟨hd,hdI,hdB⟩|⟨hd,hdI,hdB⟩)⟩
  all_goals
    refine wp_region_later (by kernel_rfl) (by kernel_rfl) ?_
    repeat (go_big_quiet_step ((first|(go_at_call 61;exact later_call (HSD.out _ (hbx.trans ((below_later _ _).mono (by omega)))))|(go_at_call 62;exact later_call (HDP.out _ (hbx.trans ((below_later _ _).mono (by omega)))))|(go_at_call 63;exact later_call (HWT.out _ (hbx.trans ((below_later _ _).mono (by omega))))))))
    refine wpQuiet_nil ?_
    intro _ hw'
    obtain ⟨pq,hw''⟩:=hw'
    subst hw''
    go_wp2_with fail
    go_ret
    exact ⟨ret_bool (by rw [HR.out];first|(simp [sndB, *];done)|(simp [sndB, *];intros;omega)),hbx.trans ((below_later _ _).mono (by omega))⟩
set_option maxHeartbeats 8000000 in
set_option maxRecDepth 100000 in
theorem ref06Sound9 (w:World) (c:CC) {R ps vk vs bk be i0 j0 n0 vn sd:Bool} {dp wt:Nat} (h:SndH w c R ps vk vs bk be i0 j0 n0 vn sd dp wt) (ek:c.k=9):
    Calls Tryz.prog 36 #[.agg #[.int .u8 c.k, .slice c.pa c.pl c.pc, .string c.key, .int .i64 c.i, .int .i64 c.j, .int .i64 c.n, .int .u8 c.v.k, .int .i64 c.v.n, .string c.v.s, .slice c.v.la c.v.ll c.v.lc, .slice c.v.oa c.v.ol c.v.oc, .string c.s]] w fun e w'=>e= .returned (.bool R)∧Below w.heap.size w w':=by
  obtain ⟨hbk,hbe,hi0,hj0,hn0,HPS,HVK,HVS,HVN,HSD,HDP,HWT,HSAYS,⟨k1,k4,k5⟩,hR2⟩:=h
  have bx:=boxed1C_start w c 63
  have e1:saysB c.k= { data:= #[73,78] } :=by rw [ek];rfl
  rw [e1] at HSAYS
  have HIN:∀(b:Nat) {t:Bool},hasB { data:= #[73,78] } b=t→Hid (Behind w 66 #[.string { data:= #[73,78] }, .int .u8 b] (.bool t)):=fun b t ht W _=>by rw [←ht];exact in06_any { data:= #[73,78] } b W (by decide)
  have hR3:R=sndB true false true false true false false bk (!i0) (!j0) (!n0) be vn ps vk vs (decide (0≤c.i)) (decide (0≤c.j)) false (decide (c.n<1)) sd (decide (c.pl+1+dp≤16)) (decide (wt≤20000)):=by
    rw [hR2,ek]
    first|rfl|(cases be<;>rfl)
  have HR:=Lib.hid hR3
  have f8:(c.k==8)=false:=by rw [ek];rfl
  have f9:(c.k==9)=true:=by rw [ek];rfl
  have HLK:Hid (Behind w 66 #[.string { data:= #[73,78] }, .int .u8 75] (.bool false)):=HIN 75 (by decide);have HLI:Hid (Behind w 66 #[.string { data:= #[73,78] }, .int .u8 73] (.bool true)):=HIN 73 (by decide);have HLJ:Hid (Behind w 66 #[.string { data:= #[73,78] }, .int .u8 74] (.bool false)):=HIN 74 (by decide);have HLN:Hid (Behind w 66 #[.string { data:= #[73,78] }, .int .u8 78] (.bool true)):=HIN 78 (by decide);have HLS:Hid (Behind w 66 #[.string { data:= #[73,78] }, .int .u8 83] (.bool false)):=HIN 83 (by decide);have HLV:Hid (Behind w 66 #[.string { data:= #[73,78] }, .int .u8 86] (.bool false)):=HIN 86 (by decide)
  clear hR2 hR3 e1 HIN ek
  go_enter Tryz.func36,Tryz.ntmps36
  go_wp2_with ((go_at_call 64;(with_reducible refine (Behind.at_ HSAYS.out ?_).mono ?_));(focus (have:=bx.below;have:=bx.size;go_grown));rintro e w1 ⟨rfl,hb1⟩;replace bx:=(bx.step (by go_grown)).step hb1;obtain ⟨zs,z0,z1,z2,z3,z4,z5,z6,y0,y1,y2,y3,y4⟩:=bx.all)
  rcases bcT ps (bcT bk (bcF j0 (bcT be (bcT vn (bcT vk (bcT vs (bcP (c.i<0) (bcP (c.j<0) (bcP (c.n<1) trivial))))))))) with rfl|⟨rfl,(rfl|⟨rfl,(rfl|⟨rfl,(rfl|⟨rfl,(rfl|⟨rfl,(rfl|⟨rfl,(rfl|⟨rfl,(hpi|⟨hpi,(hpj|⟨hpj,(hpn|⟨hpn,_⟩)⟩)⟩)⟩)⟩)⟩)⟩)⟩)⟩)⟩
  all_goals go_wp2_with ((first|(go_at_call 65;(with_reducible refine (Behind.at_ HPS.out ?_).mono ?_))|(go_at_call 66;(with_reducible refine (Behind.at_ HLK.out ?_).mono ?_))|(go_at_call 66;(with_reducible refine (Behind.at_ HLI.out ?_).mono ?_))|(go_at_call 66;(with_reducible refine (Behind.at_ HLJ.out ?_).mono ?_))|(go_at_call 66;(with_reducible refine (Behind.at_ HLN.out ?_).mono ?_))|(go_at_call 66;(with_reducible refine (Behind.at_ HLS.out ?_).mono ?_))|(go_at_call 66;(with_reducible refine (Behind.at_ HLV.out ?_).mono ?_))|(go_at_call 34;(with_reducible refine (Behind.at_ HVN.out ?_).mono ?_))|(go_at_call 60;(with_reducible refine (Behind.at_ HVK.out ?_).mono ?_))|(go_at_call 60;(with_reducible refine (Behind.at_ HVS.out ?_).mono ?_)));(focus (have:=bx.below;have:=bx.size;go_grown));rintro e w1 ⟨rfl,hb1⟩;replace bx:=(bx.step (by go_grown)).step hb1;obtain ⟨zs,z0,z1,z2,z3,z4,z5,z6,y0,y1,y2,y3,y4⟩:=bx.all)
  iterate 10 (focus (go_ret;exact ⟨ret_bool (by rw [HR.out];first|(simp [sndB, *];done)|(simp [sndB, *];intros;omega)),by have:=bx.below;have:=bx.size;go_grown⟩))
  have a0:=later_cell bx.at_.c6.c0;have a1:=later_cell bx.at_.c6.c1;have a2:=later_cell bx.at_.c6.c2;have a3:=later_cell bx.at_.c6.c3;have a4:=later_cell bx.at_.c6.c4;have a5:=later_cell bx.at_.c1
  have hbx:=bx.below
  have hbs:=bx.size
  have hn2:decide (c.n<1)=false:=by simpa using hpn
  rcases bcT sd (dec16 c.pl dp) with rfl|⟨rfl,(⟨hd,hdI,hdB⟩|⟨hd,hdI,hdB⟩)⟩
  all_goals
    refine wp_region_later (by kernel_rfl) (by kernel_rfl) ?_
    repeat (go_big_quiet_step ((first|(go_at_call 61;exact later_call (HSD.out _ (hbx.trans ((below_later _ _).mono (by omega)))))|(go_at_call 62;exact later_call (HDP.out _ (hbx.trans ((below_later _ _).mono (by omega)))))|(go_at_call 63;exact later_call (HWT.out _ (hbx.trans ((below_later _ _).mono (by omega))))))))
    refine wpQuiet_nil ?_
    intro _ hw'
    obtain ⟨pq,hw''⟩:=hw'
    subst hw''
    go_wp2_with fail
    go_ret
    exact ⟨ret_bool (by rw [HR.out];first|(simp [sndB, *];done)|(simp [sndB, *];intros;omega)),hbx.trans ((below_later _ _).mono (by omega))⟩
end Go.Proofs.YtgcfhkceejcliaaGreatDoor
namespace Go.Proofs.YtgcfhkceejcliaaGreatDoor
open Go.RowKit
theorem ref06Sound_any (x:Cm) (w:World) (hT:Tabs w) (c:CC) (hx:IsComp w w.heap.size x c) (hw:x.v.weight≤4611686018427387904):
    Calls Tryz.prog 36 #[.agg #[.int .u8 c.k, .slice c.pa c.pl c.pc, .string c.key, .int .i64 c.i, .int .i64 c.j, .int .i64 c.n, .int .u8 c.v.k, .int .i64 c.v.n, .string c.v.s, .slice c.v.la c.v.ll c.v.lc, .slice c.v.oa c.v.ol c.v.oc, .string c.s]] w fun e w'=>e= .returned (.bool (cmSound x))∧Below w.heap.size w w':=by
  obtain ⟨_,_,_,_,_,_,_,_,_,_,_,_,h⟩:=sndH_of x w hT c hx hw
  by_cases e1:c.k=1
  · exact ref06Sound1 w c h e1
  by_cases e2:c.k=2
  · exact ref06Sound2 w c h e2
  by_cases e3:c.k=3
  · exact ref06Sound3 w c h e3
  by_cases e4:c.k=4
  · exact ref06Sound4 w c h e4
  by_cases e5:c.k=5
  · exact ref06Sound5 w c h e5
  by_cases e6:c.k=6
  · exact ref06Sound6 w c h e6
  by_cases e7:c.k=7
  · exact ref06Sound7 w c h e7
  by_cases e8:c.k=8
  · exact ref06Sound8 w c h e8
  by_cases e9:c.k=9
  · exact ref06Sound9 w c h e9
  exact ref06Sound0 w c h (by simp only [kIs,Bool.and_eq_false_iff,decide_eq_false_iff_not];omega)
end Go.Proofs.YtgcfhkceejcliaaGreatDoor
namespace Go.Proofs.YtgcfhkceejcliaaGreatDoor
open Go.RowKit
noncomputable def checkP (v:V) (c:Cm):Int:=
  if cmSound c=false then 60 else match getP v c.path with
    |none=>30
    |some x=>kindsP x c.k c.i c.j c.n c.key
theorem stepP_weight {v:V} {s:St} {x:V} {k:Nat} (h:stepP v s=some (x,k)):x.weight<v.weight:=by
  obtain ⟨kk,n,t,l,o,rfl⟩:=v.eta
  rcases stepP_some h with ⟨_,_,_,hk,e⟩|⟨_,_,_,hk,e⟩
  · have h:=weightL_mem l k hk
    have e2:l[k]'hk=x:=e
    rw [e2] at h
    simp only [V.weight];omega
  · have h:=weightO_mem o k hk
    have e2:(o[k]'hk).2=x:=e
    rw [e2] at h
    simp only [V.weight];omega
theorem getP_weight (p:List St):∀ {v x:V},getP v p=some x→x.weight≤v.weight:=by
  induction p with
  |nil=>intro v x h;injection h with h;subst h;exact Nat.le_refl _
  | cons s r ih=>
    intro v x h
    unfold getP at h
    cases hs:stepP v s with
    |none=>rw [hs] at h;cases h
    | some q=>
      rw [hs] at h
      have:=stepP_weight (x:=q.1) (k:=q.2) hs
      have:=ih h
      omega
theorem V.str_weight (v:V):v.str.size<v.weight∧v.ls.length<v.weight∧v.os.length<v.weight:=by
  obtain ⟨kk,n,t,l,o,rfl⟩:=v.eta
  have hp:∀v:V,1≤v.weight:=fun v=>by cases v;simp only [V.weight];omega
  have h1:l.length≤weightL l:=by
    induction l with
    |nil=>simp
    |cons a r ih=>have:=hp a;simp only [List.length_cons,weightL];omega
  have h2:o.length≤weightO o:=by
    induction o with
    |nil=>simp
    |cons a r ih=>have:=hp a.2;simp only [List.length_cons,weightO,weightF_eq];omega
  simp only [V.str,V.ls,V.os,V.weight];omega
set_option maxHeartbeats 8000000 in
set_option maxRecDepth 100000 in
theorem check06_any (w:World) (vk vn:Int) (vs:ByteArray) (la:Option Addr) (ll lc:Nat) (oa:Option Addr) (ol oc:Nat) (v:V) (hv:IsVal w w.heap.size v ⟨vk,vn,vs,la,ll,lc,oa,ol,oc⟩) (hw:v.weight≤1000000000000) (p:List St) (xv:V) (cc:CC) (hcb:cc.Bnd) (hp:IsSteps w w.heap.size p cc.pa cc.pl cc.pc) (hxv:IsVal w w.heap.size xv cc.v) (hxw:xv.weight≤1000000000000) (hT:Tabs w):
    Calls Tryz.prog 82 #[.agg #[.int .u8 vk, .int .i64 vn, .string vs, .slice la ll lc, .slice oa ol oc], .agg #[.int .u8 cc.k, .slice cc.pa cc.pl cc.pc, .string cc.key, .int .i64 cc.i, .int .i64 cc.j, .int .i64 cc.n, .int .u8 cc.v.k, .int .i64 cc.v.n, .string cc.v.s, .slice cc.v.la cc.v.ll cc.v.lc, .slice cc.v.oa cc.v.ol cc.v.oc, .string cc.s]] w fun e w'=>e= .returned (.int .i64 (checkP v ⟨cc.k,p,cc.key,cc.i,cc.j,cc.n,xv,cc.s⟩))∧Below w.heap.size w w':=by
  have HSD:Hid (∀W,Below w.heap.size w W→Calls Tryz.prog 36 #[.agg #[.int .u8 cc.k, .slice cc.pa cc.pl cc.pc, .string cc.key, .int .i64 cc.i, .int .i64 cc.j, .int .i64 cc.n, .int .u8 cc.v.k, .int .i64 cc.v.n, .string cc.v.s, .slice cc.v.la cc.v.ll cc.v.lc, .slice cc.v.oa cc.v.ol cc.v.oc, .string cc.s]] W fun e w'=>e= .returned (.bool (cmSound ⟨cc.k,p,cc.key,cc.i,cc.j,cc.n,xv,cc.s⟩))∧Below W.heap.size W w'):=fun W hW=>ref06Sound_any _ W (hT.below hW) cc (.mk cc p xv hcb (hp.later_ hW) (hxv.later_ hW)) (by show xv.weight≤_;omega)
  have HGT:Hid (∀W,Below w.heap.size w W→Calls Tryz.prog 78 #[.agg #[.int .u8 vk, .int .i64 vn, .string vs, .slice la ll lc, .slice oa ol oc], .slice cc.pa cc.pl cc.pc] W (GetPost W (getP v p))):=fun W hW=>get_any W vk vn vs la ll lc oa ol oc v (hv.later_ hW) p cc.pa cc.pl cc.pc (hp.later_ hW)
  have HKD:Hid (∀W x (d:VC),Below w.heap.size w W→IsVal W W.heap.size x d→getP v p=some x→Calls Tryz.prog 105 #[.agg #[.int .u8 d.k, .int .i64 d.n, .string d.s, .slice d.la d.ll d.lc, .slice d.oa d.ol d.oc], .agg #[.int .u8 cc.k, .slice cc.pa cc.pl cc.pc, .string cc.key, .int .i64 cc.i, .int .i64 cc.j, .int .i64 cc.n, .int .u8 cc.v.k, .int .i64 cc.v.n, .string cc.v.s, .slice cc.v.la cc.v.ll cc.v.lc, .slice cc.v.oa cc.v.ol cc.v.oc, .string cc.s]] W fun e w'=>e= .returned (.int .i64 (kindsP x cc.k cc.i cc.j cc.n cc.key))∧Below W.heap.size W w'):=fun W x d hW hI hg=>by
    have h1:=getP_weight p hg
    have h2:=x.str_weight.1
    have h3:=(isVal_str hI).1
    exact kinds_any W d.k d.n d.s d.la d.ll d.lc d.oa d.ol d.oc x hI (by rw [←h3];omega) cc hcb (hT.below hW)
  obtain ⟨sd,hsd⟩:∃sd,cmSound ⟨cc.k,p,cc.key,cc.i,cc.j,cc.n,xv,cc.s⟩=sd:=⟨_,rfl⟩
  rw [hsd] at HSD
  obtain ⟨R,hR⟩:∃R,checkP v ⟨cc.k,p,cc.key,cc.i,cc.j,cc.n,xv,cc.s⟩=R:=⟨_,rfl⟩
  rw [hR]
  simp only [checkP,hsd] at hR
  have HR:=Lib.hid hR
  have HB:=Lib.hid (KB.start w ⟨vk,vn,vs,la,ll,lc,oa,ol,oc⟩ cc 33 63)
  clear hR hsd hv hp hxv hxw hw hT hcb
  go_enter Tryz.func82,Tryz.ntmps82
  go_wp2_with fail
  refine (HSD.out _ HB.out.below).mono ?_
  rintro e W ⟨rfl,hb1⟩
  have B:=HB.out.next hb1 (by simp)
  obtain ⟨v0,v1,v2,v3,v4⟩:=row5 B.v.at_
  obtain ⟨b0,b1,b2,b3,b4,b5,b6,b7,b8,b9,b10,b11⟩:=row12 B.c.at_
  have z0:=B.v.lt;have z1:=B.c.lt
  have HBW:=Lib.hid B
  clear B hb1
  cases sd with
  | false=>
    obtain rfl:R=60:=by rw [←HR.out];rfl
    go_wp2_with fail
    go_returns
    exact ⟨rfl,HBW.out.below⟩
  | true=>
    go_wp2_with fail
    refine (HGT.out _ HBW.out.below).mono ?_
    rintro e W2 h2
    obtain ⟨d,er,rfl,hrel,hb2⟩:=GetPost.gen h2
    clear h2
    have B2:=HBW.out.next hb2 (Nat.succ_le_of_lt z1)
    clear v0 v1 v2 v3 v4 b0 b1 b2 b3 b4 b5 b6 b7 b8 b9 b10 b11
    obtain ⟨v0,v1,v2,v3,v4⟩:=row5 B2.v.at_
    obtain ⟨b0,b1,b2,b3,b4,b5,b6,b7,b8,b9,b10,b11⟩:=row12 B2.c.at_
    have z0:=B2.v.lt;have z1:=B2.c.lt
    have hbl2:=B2.below
    have HB2:=Lib.hid (hbl2.alloc hbl2.size (.cells #[.int .u8 d.k, .int .i64 d.n, .string d.s, .slice d.la d.ll d.lc, .slice d.oa d.ol d.oc] 33))
    clear hb2 B2
    rcases hrel.out with ⟨hg,rfl⟩|⟨x,hg,rfl,hI⟩
    · obtain rfl:R=30:=by rw [←HR.out,hg];rfl
      clear hg hbl2
      go_wp2_with fail
      go_returns
      exact ⟨rfl,HB2.out⟩
    · have HK:Hid (Calls Tryz.prog 105 #[.agg #[.int .u8 d.k, .int .i64 d.n, .string d.s, .slice d.la d.ll d.lc, .slice d.oa d.ol d.oc], .agg #[.int .u8 cc.k, .slice cc.pa cc.pl cc.pc, .string cc.key, .int .i64 cc.i, .int .i64 cc.j, .int .i64 cc.n, .int .u8 cc.v.k, .int .i64 cc.v.n, .string cc.v.s, .slice cc.v.la cc.v.ll cc.v.lc, .slice cc.v.oa cc.v.ol cc.v.oc, .string cc.s]] (W2.alloc (.cells #[.int .u8 d.k, .int .i64 d.n, .string d.s, .slice d.la d.ll d.lc, .slice d.oa d.ol d.oc] 33)) fun e w'=>e= .returned (.int .i64 (kindsP x cc.k cc.i cc.j cc.n cc.key))∧Below (W2.alloc (.cells #[.int .u8 d.k, .int .i64 d.n, .string d.s, .slice d.la d.ll d.lc, .slice d.oa d.ol d.oc] 33)).heap.size (W2.alloc (.cells #[.int .u8 d.k, .int .i64 d.n, .string d.s, .slice d.la d.ll d.lc, .slice d.oa d.ol d.oc] 33)) w'):=HKD.out _ x d HB2.out ((hI.sub (shows_only _ _ _)).later_ ((Below.refl _ _).alloc (Nat.le_refl _) _)) hg
      obtain rfl:R=kindsP x cc.k cc.i cc.j cc.n cc.key:=by rw [←HR.out,hg];rfl
      clear hg hI hrel hbl2
      go_wp2_with fail
      refine HK.out.mono ?_
      rintro e W3 ⟨rfl,hb3⟩
      go_wp2_with fail
      go_returns
      exact ⟨rfl,HB2.out.trans (hb3.mono HB2.out.size)⟩
end Go.Proofs.YtgcfhkceejcliaaGreatDoor
namespace Go.Proofs.YtgcfhkceejcliaaGreatDoor
open Go.RowKit
def fldStep (key:ByteArray) (v:V) (s:List (ByteArray×V)×Bool) (f:ByteArray×V):List (ByteArray×V)×Bool:=
  if s.2=false∧Op.bytesLess f.1.toList key.toList=false then (if f.1.toList=key.toList then (s.1++ [(key,v)],true) else (s.1++ [(key,v)] ++ [f],true))
  else if f.1.toList=key.toList then s else (s.1++ [f],s.2)
def fieldsDo (o:List (ByteArray×V)) (key:ByteArray) (v:V) (del:Bool):List (ByteArray×V):=
  if (o.foldl (fldStep key v) ([],del)).2=false then (o.foldl (fldStep key v) ([],del)).1++ [(key,v)] else (o.foldl (fldStep key v) ([],del)).1
theorem fold_take {α β:Type} (f:β→α→β) (b:β) (l:List α) (k:Nat) (h:k<l.length):(l.take (k+1)).foldl f b=f ((l.take k).foldl f b) l[k] :=by
  rw [take_snoc l k h,List.foldl_append];rfl
theorem PF.snoc1 {l:List (ByteArray×V)} {cs:List (ByteArray×VC)} {W:World} {B:Nat} (hl:cs.length=l.length) (h:∀i,i<l.length→PF l cs W B i) {s:ByteArray} (hs:s.size≤140737488355328) {x:V} {c:VC} (hx:IsVal W B x c):∀i,i<(l++ [(s,x)]).length→PF (l++ [(s,x)]) (cs++ [(s,c)]) W B i:=by
  obtain ⟨s1,s2⟩:=PF.snoc (l:=l) (cs:=cs) hl s hs x c
  intro i hi
  by_cases e:i<l.length
  · exact s2 W B i e (h i e)
  · rw [List.length_append,List.length_singleton] at hi
    obtain rfl:i=l.length:=by omega
    exact s1 W B hx
theorem isFields_of_ownS {w:World} {B1:Nat} {S:Nat→Prop} {v:Value} {l:List (ByteArray×V)} {cs:List (ByteArray×VC)} (hown:w.ownsRow B1 98 6 v l.length (cs.flatMap fcells)) (hS:∀k,B1≤k→S k) (hl:cs.length=l.length) (hels:∀i,i<l.length→PF l cs (only S w) w.heap.size i) (hfew:l.length≤1466015503701):
    ∃a n c,v= .slice a n c∧IsFields (only S w) w.heap.size l a n c∧(a=none→c=0):=by
  obtain ⟨a,c,hv,hr⟩:=OwnRow.of (base':=B1) hown (Nat.le_refl _)
  have hI:=isVal_rows (w:=only S w) (B:=w.heap.size) (k:=0) (n:=0) (s:= .empty) (l:= []) (o:=l) (a:=none) (m:=0) (c:=0) (a':=a) (m':=l.length) (c':=c) (cl:= []) (co:=cs) (by omega) (by omega) (by omega) (by omega) (by decide) rfl rfl rfl hl (by simp) hfew (by omega) (by omega) hr.cap hr.max (fun h=>absurd h (by omega)) (fun hp=>by
    obtain ⟨g,e,hg,hbc⟩:=hr.row (.inl hp)
    exact ⟨g,e,hbc.lt,fun i hi=>⟨only_cell' (hS g hg) (fldAt_flat hbc hi).1,only_cellV (hS g hg) (fldAt_flat hbc hi).2⟩⟩) (fun i h=>absurd h (by simp)) hels
  refine ⟨a,l.length,c,hv,hI.lists.2.2.2.2.2,fun ha=> ?_⟩
  by_cases hn:l.length=0
  · exact hr.none_ hn ha
  · obtain ⟨g,e,_⟩:=hr.row (.inl (by omega))
    rw [ha] at e;cases e
def FieldsPost (w:World) (S:Nat→Prop) (l:List (ByteArray×V)) (e:Ending) (w':World):Prop:=
  (∃a n c,e= .returned (.slice a n c)∧IsFields (only S w') w'.heap.size l a n c)∧Below w.heap.size w w'
structure FH (W1 wr:World) (S:Nat→Prop) (o:List (ByteArray×V)) (key:ByteArray) (v:V) (del:Bool) (j:Nat) (u:Value) (xs:List (ByteArray×V)) (cs:List (ByteArray×VC)) (done:Bool):Prop where
  rd:(o.take j).foldl (fldStep key v) ([],del)=(xs,done)
  few:xs.length≤2*j
  cen:cs.length=xs.length
  own:wr.ownsRow W1.heap.size 98 6 u xs.length (cs.flatMap fcells)
  els:∀i,i<xs.length→PF xs cs (only S W1) W1.heap.size i
  below:Below W1.heap.size W1 wr
theorem FH.drewN {W1 wr:World} {S:Nat→Prop} {o:List (ByteArray×V)} {key:ByteArray} {v:V} {del:Bool} {j:Nat} {u:Value} {xs:List (ByteArray×V)} {cs:List (ByteArray×VC)} {done:Bool} (h:FH W1 wr S o key v del j u xs cs done) (n:Nat):FH W1 (wr.drewN n) S o key v del j u xs cs done:=
  ⟨h.rd,h.few,h.cen,h.own.kept (row:=none) ⟨rfl,rfl,rfl,Nat.le_refl _,fun _ _ _=>rfl⟩ (by cases u.ownBlock<;>simp),h.els,belowN h.below n⟩
theorem own_drewN {w:World} {base:Nat} {T:TypeId} {sz:Nat} {u:Value} {n:Nat} {cells:List Value} (h:w.ownsRow base T sz u n cells) (k:Nat):(w.drewN k).ownsRow base T sz u n cells:=
  h.kept (row:=none) ⟨rfl,rfl,rfl,Nat.le_refl _,fun _ _ _=>rfl⟩ (by cases u.ownBlock<;>simp)
theorem drewN_size (w:World) (n:Nat) (o:Obj):((w.drewN n).alloc o).heap.size=w.heap.size+1:=World.size_alloc (w.drewN n) o
theorem below_drewN (w:World) (n:Nat):Below w.heap.size w (w.drewN n):=belowN (Below.refl _ _) n
theorem news_drewN (w:World) (n:Nat) (s:ByteArray) (d:VC) (t:TypeId):∀j u,(fcells (s,d))[j]? =some u→((w.drewN n).alloc (.cells #[.string s, .int .u8 d.k, .int .i64 d.n, .string d.s, .slice d.la d.ll d.lc, .slice d.oa d.ol d.oc] t)).cell? ((⟨w.heap.size,0,none⟩:Addr).add j)=some u:=
  World.news_of_block (t:=t) (fr:=(0,0)) (heap_alloc_new (w.drewN n) (.cells #[.string s, .int .u8 d.k, .int .i64 d.n, .string d.s, .slice d.la d.ll d.lc, .slice d.oa d.ol d.oc] t))
theorem grow_one {W1 wr w0 w7:World} {S:Nat→Prop} {u u':Value} {xs:List (ByteArray×V)} {cs:List (ByteArray×VC)} {s:ByteArray} {x:V} {cx:VC}
    (hlt:∀b,u.ownBlock=some b→W1.heap.size≤b) (cen:cs.length=xs.length) (els:∀i,i<xs.length→PF xs cs (only S W1) W1.heap.size i) (below:Below W1.heap.size W1 wr)
    (hs:s.size≤140737488355328) (hx:IsVal (only S W1) W1.heap.size x cx) (hb:Below wr.heap.size wr w0)
    (hown:w7.ownsRow W1.heap.size 98 6 u' (xs.length+1) (cs.flatMap fcells++fcells (s,cx))) (hg:w0.grownBy w7 u.ownBlock):
    (cs++ [(s,cx)]).length=(xs++ [(s,x)]).length∧w7.ownsRow W1.heap.size 98 6 u' (xs++ [(s,x)]).length ((cs++ [(s,cx)]).flatMap fcells)∧(∀i,i<(xs++ [(s,x)]).length→PF (xs++ [(s,x)]) (cs++ [(s,cx)]) (only S W1) W1.heap.size i)∧Below W1.heap.size W1 w7:=by
  refine ⟨by simp [cen], ?_,PF.snoc1 cen els hs hx,(below.trans (hb.mono below.size)).trans (grown_below hg hlt (Nat.le_trans below.size hb.size))⟩
  rw [flat_snoc,List.length_append,List.length_singleton]
  exact hown
theorem filledF1 {w w4:World} (h:Below w.heap.size w.drew w4) (hz:w.heap.size≤w4.heap.size) (s:ByteArray) (d:VC) (t:TypeId):BC (w4.alloc (.cells #[.string s, .int .u8 d.k, .int .i64 d.n, .string d.s, .slice d.la d.ll d.lc, .slice d.oa d.ol d.oc] t)) w4.heap.size (fcells (s,d))∧Below w.heap.size w.drew (w4.alloc (.cells #[.string s, .int .u8 d.k, .int .i64 d.n, .string d.s, .slice d.la d.ll d.lc, .slice d.oa d.ol d.oc] t))∧w.heap.size≤w4.heap.size:=
  ⟨BC.start w4 #[.string s, .int .u8 d.k, .int .i64 d.n, .string d.s, .slice d.la d.ll d.lc, .slice d.oa d.ol d.oc] t,h.alloc hz _,hz⟩
theorem filledF2 {w w4:World} (h:Below w.heap.size w.drew w4) (s:ByteArray) (d:VC) (x:BC w4 w.heap.size [.string { data:= #[] }, .int .u8 0, .int .i64 0, .string { data:= #[] }, .slice none 0 0, .slice none 0 0]):
    BC ((((((w4.setCell ⟨w.heap.size,0,none⟩ (.string s)).setCell ⟨w.heap.size,1,none⟩ (.int .u8 d.k)).setCell ⟨w.heap.size,2,none⟩ (.int .i64 d.n)).setCell ⟨w.heap.size,3,none⟩ (.string d.s)).setCell ⟨w.heap.size,4,none⟩ (.slice d.la d.ll d.lc)).setCell ⟨w.heap.size,5,none⟩ (.slice d.oa d.ol d.oc)) w.heap.size (fcells (s,d))∧Below w.heap.size w.drew ((((((w4.setCell ⟨w.heap.size,0,none⟩ (.string s)).setCell ⟨w.heap.size,1,none⟩ (.int .u8 d.k)).setCell ⟨w.heap.size,2,none⟩ (.int .i64 d.n)).setCell ⟨w.heap.size,3,none⟩ (.string d.s)).setCell ⟨w.heap.size,4,none⟩ (.slice d.la d.ll d.lc)).setCell ⟨w.heap.size,5,none⟩ (.slice d.oa d.ol d.oc))∧w.heap.size≤w.heap.size:=
  ⟨(((((x.set (i:=0) (x:= .string s) (by simp)).set (i:=1) (x:= .int .u8 d.k) (by simp)).set (i:=2) (x:= .int .i64 d.n) (by simp)).set (i:=3) (x:= .string d.s) (by simp)).set (i:=4) (x:= .slice d.la d.ll d.lc) (by simp)).set (i:=5) (x:= .slice d.oa d.ol d.oc) (by simp),
   (((((h.set_ (Nat.le_refl _)).set_ (Nat.le_refl _)).set_ (Nat.le_refl _)).set_ (Nat.le_refl _)).set_ (Nat.le_refl _)).set_ (Nat.le_refl _),Nat.le_refl _⟩
theorem _root_.Go.RowKit.Below.set6 {B b:Nat} {a w:World} (h:Below B a w) (hb:B≤b) (x0 x1 x2 x3 x4 x5:Value):Below B a ((((((w.setCell ⟨b,0,none⟩ x0).setCell ⟨b,1,none⟩ x1).setCell ⟨b,2,none⟩ x2).setCell ⟨b,3,none⟩ x3).setCell ⟨b,4,none⟩ x4).setCell ⟨b,5,none⟩ x5):=
  (((((h.set_ hb).set_ hb).set_ hb).set_ hb).set_ hb).set_ hb
theorem filledFZ1 {w w4:World} (h:Below w.heap.size w.drew w4) (hz:w.heap.size≤w4.heap.size) (s:ByteArray) (d:VC) (t:TypeId) {x:V} (hx:IsVal (only (fun b=>w.heap.size≤b) w4) w4.heap.size x d):
    (BC (w4.alloc (.cells #[.string s, .int .u8 d.k, .int .i64 d.n, .string d.s, .slice d.la d.ll d.lc, .slice d.oa d.ol d.oc] t)) w4.heap.size (fcells (s,d))∧Below w.heap.size w.drew (w4.alloc (.cells #[.string s, .int .u8 d.k, .int .i64 d.n, .string d.s, .slice d.la d.ll d.lc, .slice d.oa d.ol d.oc] t))∧w.heap.size≤w4.heap.size)∧Hid (IsVal (only (fun b=>w.heap.size≤b) (w4.alloc (.cells #[.string s, .int .u8 d.k, .int .i64 d.n, .string d.s, .slice d.la d.ll d.lc, .slice d.oa d.ol d.oc] t))) (w4.alloc (.cells #[.string s, .int .u8 d.k, .int .i64 d.n, .string d.s, .slice d.la d.ll d.lc, .slice d.oa d.ol d.oc] t)).heap.size x d):=by
  have hb:Below w4.heap.size w4 (w4.alloc (.cells #[.string s, .int .u8 d.k, .int .i64 d.n, .string d.s, .slice d.la d.ll d.lc, .slice d.oa d.ol d.oc] t)):=(Below.refl _ _).alloc (Nat.le_refl _) _
  exact ⟨filledF1 h hz s d t,(hx.sub (shows_step fun k hk hl=>⟨hk,hb.block k hl⟩)).more hb.size⟩
theorem filledFZ2 {w w4:World} (h:Below w.heap.size w.drew w4) (s:ByteArray) (d:VC) (xb:BC w4 w.heap.size [.string { data:= #[] }, .int .u8 0, .int .i64 0, .string { data:= #[] }, .slice none 0 0, .slice none 0 0]) {x:V} (hx:IsVal (only (fun b=>w.heap.size+1≤b) w4) w4.heap.size x d):
    (BC ((((((w4.setCell ⟨w.heap.size,0,none⟩ (.string s)).setCell ⟨w.heap.size,1,none⟩ (.int .u8 d.k)).setCell ⟨w.heap.size,2,none⟩ (.int .i64 d.n)).setCell ⟨w.heap.size,3,none⟩ (.string d.s)).setCell ⟨w.heap.size,4,none⟩ (.slice d.la d.ll d.lc)).setCell ⟨w.heap.size,5,none⟩ (.slice d.oa d.ol d.oc)) w.heap.size (fcells (s,d))∧Below w.heap.size w.drew ((((((w4.setCell ⟨w.heap.size,0,none⟩ (.string s)).setCell ⟨w.heap.size,1,none⟩ (.int .u8 d.k)).setCell ⟨w.heap.size,2,none⟩ (.int .i64 d.n)).setCell ⟨w.heap.size,3,none⟩ (.string d.s)).setCell ⟨w.heap.size,4,none⟩ (.slice d.la d.ll d.lc)).setCell ⟨w.heap.size,5,none⟩ (.slice d.oa d.ol d.oc))∧w.heap.size≤w.heap.size)∧Hid (IsVal (only (fun b=>w.heap.size≤b) ((((((w4.setCell ⟨w.heap.size,0,none⟩ (.string s)).setCell ⟨w.heap.size,1,none⟩ (.int .u8 d.k)).setCell ⟨w.heap.size,2,none⟩ (.int .i64 d.n)).setCell ⟨w.heap.size,3,none⟩ (.string d.s)).setCell ⟨w.heap.size,4,none⟩ (.slice d.la d.ll d.lc)).setCell ⟨w.heap.size,5,none⟩ (.slice d.oa d.ol d.oc))) ((((((w4.setCell ⟨w.heap.size,0,none⟩ (.string s)).setCell ⟨w.heap.size,1,none⟩ (.int .u8 d.k)).setCell ⟨w.heap.size,2,none⟩ (.int .i64 d.n)).setCell ⟨w.heap.size,3,none⟩ (.string d.s)).setCell ⟨w.heap.size,4,none⟩ (.slice d.la d.ll d.lc)).setCell ⟨w.heap.size,5,none⟩ (.slice d.oa d.ol d.oc)).heap.size x d):=by
  have st:RStep w4 ((((((w4.setCell ⟨w.heap.size,0,none⟩ (.string s)).setCell ⟨w.heap.size,1,none⟩ (.int .u8 d.k)).setCell ⟨w.heap.size,2,none⟩ (.int .i64 d.n)).setCell ⟨w.heap.size,3,none⟩ (.string d.s)).setCell ⟨w.heap.size,4,none⟩ (.slice d.la d.ll d.lc)).setCell ⟨w.heap.size,5,none⟩ (.slice d.oa d.ol d.oc)) w.heap.size:=((((RStep.self.trans RStep.self).trans RStep.self).trans RStep.self).trans RStep.self).trans RStep.self
  exact ⟨filledF2 h s d xb,(hx.sub (shows_step fun k hk hl=>⟨by omega,st.block k hl (by omega)⟩)).more st.size⟩
end Go.Proofs.YtgcfhkceejcliaaGreatDoor
