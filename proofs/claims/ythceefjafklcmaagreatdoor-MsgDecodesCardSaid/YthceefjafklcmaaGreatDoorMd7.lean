/-
  Contracts of the functions that the law reaches: conciliatorref10.says. A row of facts as one.
-/
import Derived.Test.YthceefjafklcmaaGreatDoorMd3
import Derived.Test.YthceefjafklcmaaGreatDoorProg
namespace Go.Proofs.YthceefjafklcmaaGreatDoor
open Go.RowKit
def says10B (k:Int):ByteArray:=if k=0 then { data:= #[46] } else saysB k
theorem says10_has (k:Int) (b:Nat) (hb:b≠46):hasB (says10B k) b=hasB (saysB k) b:=by
  by_cases h:k=0
  · subst h
    have:¬(46=b):=fun e=>hb e.symm
    simp [says10B,saysB,hasB,this]
  · rw [says10B,if_neg h]
set_option maxHeartbeats 4000000 in
set_option maxRecDepth 100000 in
theorem says10_any (k:Int) (w:World):
    Calls Tryz.prog 79 #[.int .u8 k] w fun e w'=>e= .returned (.string (says10B k))∧Below w.heap.size w w':=by
  go_enter Tryz.func79,Tryz.ntmps79
  go_wp2_with fail
  go_loopw [3,4,5] (fun n f i wr=>(∃j a b:Nat,j≤26∧ [0,0,1,1,2,2,2,3,3,4,4,4,5,5,6,6,6,7,7,7,8,8,8,9,9,9,10].getD j 0=a∧ [0,0,2,2,4,4,4,7,7,9,9,9,12,12,14,14,14,17,17,17,20,20,20,23,23,23,26].getD j 0=b∧n= .int .u8 a∧f= .int .i64 b∧i= .int .i64 j∧Hid (∀m:Nat,m<a→k≠m))∧Below w.heap.size w wr) (fun _ _ i _=>26 - (intOf i).toNat)
  case atStart=>exact ⟨⟨0,0,0,by omega,rfl,rfl,rfl,rfl,rfl,Lib.hid (fun m hm=>by omega)⟩,Below.refl _ _⟩
  case round=>
    obtain ⟨⟨j,a,b,hj,ha,hb,rfl,rfl,rfl,HM⟩,hB⟩:=hrel
    by_cases e0:j=0
    case pos=>
      subst e0
      have ha:a=0:=ha.symm
      have hb:b=0:=hb.symm
      subst ha hb
      go_wp2_with fail
      go_roundw
      case rel=>exact ⟨⟨1,0,0,by omega,rfl,rfl,rfl,rfl,by go_num,HM⟩,hB⟩
      case measure=>simp [intOf]
    by_cases e1:j=1
    case pos=>
      subst e1
      have ha:a=0:=ha.symm
      have hb:b=0:=hb.symm
      subst ha hb
      by_cases ek:k=0
      · have f1:((0:Int)==k)=true:=by simp [ek]
        have HE:=Lib.hid ek
        clear ek
        go_wp2_with fail
        go_ret
        exact ⟨by rw [HE.out];rfl,hB⟩
      · have f1:((0:Int)==k)=false:=by simp;omega
        have HE:=Lib.hid ek
        clear ek
        go_wp2_with fail
        go_roundw
        case rel=>exact ⟨⟨2,1,2,by omega,rfl,rfl,rfl,rfl,by go_num,Lib.hid (fun m hm=>by
          by_cases hm2:m<0
          · exact HM.out m hm2
          · have:m=0:=by omega
            subst this;exact HE.out)⟩,hB⟩
        case measure=>simp [intOf]
    by_cases e2:j=2
    case pos=>
      subst e2
      have ha:a=1:=ha.symm
      have hb:b=2:=hb.symm
      subst ha hb
      go_wp2_with fail
      go_roundw
      case rel=>exact ⟨⟨3,1,2,by omega,rfl,rfl,rfl,rfl,by go_num,HM⟩,hB⟩
      case measure=>simp [intOf]
    by_cases e3:j=3
    case pos=>
      subst e3
      have ha:a=1:=ha.symm
      have hb:b=2:=hb.symm
      subst ha hb
      by_cases ek:k=1
      · have f1:((1:Int)==k)=true:=by simp [ek]
        have HE:=Lib.hid ek
        clear ek
        go_wp2_with fail
        go_ret
        exact ⟨by rw [HE.out];rfl,hB⟩
      · have f1:((1:Int)==k)=false:=by simp;omega
        have HE:=Lib.hid ek
        clear ek
        go_wp2_with fail
        go_roundw
        case rel=>exact ⟨⟨4,2,4,by omega,rfl,rfl,rfl,rfl,by go_num,Lib.hid (fun m hm=>by
          by_cases hm2:m<1
          · exact HM.out m hm2
          · have:m=1:=by omega
            subst this;exact HE.out)⟩,hB⟩
        case measure=>simp [intOf]
    by_cases e4:j=4
    case pos=>
      subst e4
      have ha:a=2:=ha.symm
      have hb:b=4:=hb.symm
      subst ha hb
      go_wp2_with fail
      go_roundw
      case rel=>exact ⟨⟨5,2,4,by omega,rfl,rfl,rfl,rfl,by go_num,HM⟩,hB⟩
      case measure=>simp [intOf]
    by_cases e5:j=5
    case pos=>
      subst e5
      have ha:a=2:=ha.symm
      have hb:b=4:=hb.symm
      subst ha hb
      go_wp2_with fail
      go_roundw
      case rel=>exact ⟨⟨6,2,4,by omega,rfl,rfl,rfl,rfl,by go_num,HM⟩,hB⟩
      case measure=>simp [intOf]
    by_cases e6:j=6
    case pos=>
      subst e6
      have ha:a=2:=ha.symm
      have hb:b=4:=hb.symm
      subst ha hb
      by_cases ek:k=2
      · have f1:((2:Int)==k)=true:=by simp [ek]
        have HE:=Lib.hid ek
        clear ek
        go_wp2_with fail
        go_ret
        exact ⟨by rw [HE.out];rfl,hB⟩
      · have f1:((2:Int)==k)=false:=by simp;omega
        have HE:=Lib.hid ek
        clear ek
        go_wp2_with fail
        go_roundw
        case rel=>exact ⟨⟨7,3,7,by omega,rfl,rfl,rfl,rfl,by go_num,Lib.hid (fun m hm=>by
          by_cases hm2:m<2
          · exact HM.out m hm2
          · have:m=2:=by omega
            subst this;exact HE.out)⟩,hB⟩
        case measure=>simp [intOf]
    by_cases e7:j=7
    case pos=>
      subst e7
      have ha:a=3:=ha.symm
      have hb:b=7:=hb.symm
      subst ha hb
      go_wp2_with fail
      go_roundw
      case rel=>exact ⟨⟨8,3,7,by omega,rfl,rfl,rfl,rfl,by go_num,HM⟩,hB⟩
      case measure=>simp [intOf]
    by_cases e8:j=8
    case pos=>
      subst e8
      have ha:a=3:=ha.symm
      have hb:b=7:=hb.symm
      subst ha hb
      by_cases ek:k=3
      · have f1:((3:Int)==k)=true:=by simp [ek]
        have HE:=Lib.hid ek
        clear ek
        go_wp2_with fail
        go_ret
        exact ⟨by rw [HE.out];rfl,hB⟩
      · have f1:((3:Int)==k)=false:=by simp;omega
        have HE:=Lib.hid ek
        clear ek
        go_wp2_with fail
        go_roundw
        case rel=>exact ⟨⟨9,4,9,by omega,rfl,rfl,rfl,rfl,by go_num,Lib.hid (fun m hm=>by
          by_cases hm2:m<3
          · exact HM.out m hm2
          · have:m=3:=by omega
            subst this;exact HE.out)⟩,hB⟩
        case measure=>simp [intOf]
    by_cases e9:j=9
    case pos=>
      subst e9
      have ha:a=4:=ha.symm
      have hb:b=9:=hb.symm
      subst ha hb
      go_wp2_with fail
      go_roundw
      case rel=>exact ⟨⟨10,4,9,by omega,rfl,rfl,rfl,rfl,by go_num,HM⟩,hB⟩
      case measure=>simp [intOf]
    by_cases e10:j=10
    case pos=>
      subst e10
      have ha:a=4:=ha.symm
      have hb:b=9:=hb.symm
      subst ha hb
      go_wp2_with fail
      go_roundw
      case rel=>exact ⟨⟨11,4,9,by omega,rfl,rfl,rfl,rfl,by go_num,HM⟩,hB⟩
      case measure=>simp [intOf]
    by_cases e11:j=11
    case pos=>
      subst e11
      have ha:a=4:=ha.symm
      have hb:b=9:=hb.symm
      subst ha hb
      by_cases ek:k=4
      · have f1:((4:Int)==k)=true:=by simp [ek]
        have HE:=Lib.hid ek
        clear ek
        go_wp2_with fail
        go_ret
        exact ⟨by rw [HE.out];rfl,hB⟩
      · have f1:((4:Int)==k)=false:=by simp;omega
        have HE:=Lib.hid ek
        clear ek
        go_wp2_with fail
        go_roundw
        case rel=>exact ⟨⟨12,5,12,by omega,rfl,rfl,rfl,rfl,by go_num,Lib.hid (fun m hm=>by
          by_cases hm2:m<4
          · exact HM.out m hm2
          · have:m=4:=by omega
            subst this;exact HE.out)⟩,hB⟩
        case measure=>simp [intOf]
    by_cases e12:j=12
    case pos=>
      subst e12
      have ha:a=5:=ha.symm
      have hb:b=12:=hb.symm
      subst ha hb
      go_wp2_with fail
      go_roundw
      case rel=>exact ⟨⟨13,5,12,by omega,rfl,rfl,rfl,rfl,by go_num,HM⟩,hB⟩
      case measure=>simp [intOf]
    by_cases e13:j=13
    case pos=>
      subst e13
      have ha:a=5:=ha.symm
      have hb:b=12:=hb.symm
      subst ha hb
      by_cases ek:k=5
      · have f1:((5:Int)==k)=true:=by simp [ek]
        have HE:=Lib.hid ek
        clear ek
        go_wp2_with fail
        go_ret
        exact ⟨by rw [HE.out];rfl,hB⟩
      · have f1:((5:Int)==k)=false:=by simp;omega
        have HE:=Lib.hid ek
        clear ek
        go_wp2_with fail
        go_roundw
        case rel=>exact ⟨⟨14,6,14,by omega,rfl,rfl,rfl,rfl,by go_num,Lib.hid (fun m hm=>by
          by_cases hm2:m<5
          · exact HM.out m hm2
          · have:m=5:=by omega
            subst this;exact HE.out)⟩,hB⟩
        case measure=>simp [intOf]
    by_cases e14:j=14
    case pos=>
      subst e14
      have ha:a=6:=ha.symm
      have hb:b=14:=hb.symm
      subst ha hb
      go_wp2_with fail
      go_roundw
      case rel=>exact ⟨⟨15,6,14,by omega,rfl,rfl,rfl,rfl,by go_num,HM⟩,hB⟩
      case measure=>simp [intOf]
    by_cases e15:j=15
    case pos=>
      subst e15
      have ha:a=6:=ha.symm
      have hb:b=14:=hb.symm
      subst ha hb
      go_wp2_with fail
      go_roundw
      case rel=>exact ⟨⟨16,6,14,by omega,rfl,rfl,rfl,rfl,by go_num,HM⟩,hB⟩
      case measure=>simp [intOf]
    by_cases e16:j=16
    case pos=>
      subst e16
      have ha:a=6:=ha.symm
      have hb:b=14:=hb.symm
      subst ha hb
      by_cases ek:k=6
      · have f1:((6:Int)==k)=true:=by simp [ek]
        have HE:=Lib.hid ek
        clear ek
        go_wp2_with fail
        go_ret
        exact ⟨by rw [HE.out];rfl,hB⟩
      · have f1:((6:Int)==k)=false:=by simp;omega
        have HE:=Lib.hid ek
        clear ek
        go_wp2_with fail
        go_roundw
        case rel=>exact ⟨⟨17,7,17,by omega,rfl,rfl,rfl,rfl,by go_num,Lib.hid (fun m hm=>by
          by_cases hm2:m<6
          · exact HM.out m hm2
          · have:m=6:=by omega
            subst this;exact HE.out)⟩,hB⟩
        case measure=>simp [intOf]
    by_cases e17:j=17
    case pos=>
      subst e17
      have ha:a=7:=ha.symm
      have hb:b=17:=hb.symm
      subst ha hb
      go_wp2_with fail
      go_roundw
      case rel=>exact ⟨⟨18,7,17,by omega,rfl,rfl,rfl,rfl,by go_num,HM⟩,hB⟩
      case measure=>simp [intOf]
    by_cases e18:j=18
    case pos=>
      subst e18
      have ha:a=7:=ha.symm
      have hb:b=17:=hb.symm
      subst ha hb
      go_wp2_with fail
      go_roundw
      case rel=>exact ⟨⟨19,7,17,by omega,rfl,rfl,rfl,rfl,by go_num,HM⟩,hB⟩
      case measure=>simp [intOf]
    by_cases e19:j=19
    case pos=>
      subst e19
      have ha:a=7:=ha.symm
      have hb:b=17:=hb.symm
      subst ha hb
      by_cases ek:k=7
      · have f1:((7:Int)==k)=true:=by simp [ek]
        have HE:=Lib.hid ek
        clear ek
        go_wp2_with fail
        go_ret
        exact ⟨by rw [HE.out];rfl,hB⟩
      · have f1:((7:Int)==k)=false:=by simp;omega
        have HE:=Lib.hid ek
        clear ek
        go_wp2_with fail
        go_roundw
        case rel=>exact ⟨⟨20,8,20,by omega,rfl,rfl,rfl,rfl,by go_num,Lib.hid (fun m hm=>by
          by_cases hm2:m<7
          · exact HM.out m hm2
          · have:m=7:=by omega
            subst this;exact HE.out)⟩,hB⟩
        case measure=>simp [intOf]
    by_cases e20:j=20
    case pos=>
      subst e20
      have ha:a=8:=ha.symm
      have hb:b=20:=hb.symm
      subst ha hb
      go_wp2_with fail
      go_roundw
      case rel=>exact ⟨⟨21,8,20,by omega,rfl,rfl,rfl,rfl,by go_num,HM⟩,hB⟩
      case measure=>simp [intOf]
    by_cases e21:j=21
    case pos=>
      subst e21
      have ha:a=8:=ha.symm
      have hb:b=20:=hb.symm
      subst ha hb
      go_wp2_with fail
      go_roundw
      case rel=>exact ⟨⟨22,8,20,by omega,rfl,rfl,rfl,rfl,by go_num,HM⟩,hB⟩
      case measure=>simp [intOf]
    by_cases e22:j=22
    case pos=>
      subst e22
      have ha:a=8:=ha.symm
      have hb:b=20:=hb.symm
      subst ha hb
      by_cases ek:k=8
      · have f1:((8:Int)==k)=true:=by simp [ek]
        have HE:=Lib.hid ek
        clear ek
        go_wp2_with fail
        go_ret
        exact ⟨by rw [HE.out];rfl,hB⟩
      · have f1:((8:Int)==k)=false:=by simp;omega
        have HE:=Lib.hid ek
        clear ek
        go_wp2_with fail
        go_roundw
        case rel=>exact ⟨⟨23,9,23,by omega,rfl,rfl,rfl,rfl,by go_num,Lib.hid (fun m hm=>by
          by_cases hm2:m<8
          · exact HM.out m hm2
          · have:m=8:=by omega
            subst this;exact HE.out)⟩,hB⟩
        case measure=>simp [intOf]
    by_cases e23:j=23
    case pos=>
      subst e23
      have ha:a=9:=ha.symm
      have hb:b=23:=hb.symm
      subst ha hb
      go_wp2_with fail
      go_roundw
      case rel=>exact ⟨⟨24,9,23,by omega,rfl,rfl,rfl,rfl,by go_num,HM⟩,hB⟩
      case measure=>simp [intOf]
    by_cases e24:j=24
    case pos=>
      subst e24
      have ha:a=9:=ha.symm
      have hb:b=23:=hb.symm
      subst ha hb
      go_wp2_with fail
      go_roundw
      case rel=>exact ⟨⟨25,9,23,by omega,rfl,rfl,rfl,rfl,by go_num,HM⟩,hB⟩
      case measure=>simp [intOf]
    by_cases e25:j=25
    case pos=>
      subst e25
      have ha:a=9:=ha.symm
      have hb:b=23:=hb.symm
      subst ha hb
      by_cases ek:k=9
      · have f1:((9:Int)==k)=true:=by simp [ek]
        have HE:=Lib.hid ek
        clear ek
        go_wp2_with fail
        go_ret
        exact ⟨by rw [HE.out];rfl,hB⟩
      · have f1:((9:Int)==k)=false:=by simp;omega
        have HE:=Lib.hid ek
        clear ek
        go_wp2_with fail
        go_roundw
        case rel=>exact ⟨⟨26,10,26,by omega,rfl,rfl,rfl,rfl,by go_num,Lib.hid (fun m hm=>by
          by_cases hm2:m<9
          · exact HM.out m hm2
          · have:m=9:=by omega
            subst this;exact HE.out)⟩,hB⟩
        case measure=>simp [intOf]
    have e26:j=26:=by omega
    subst e26
    have ha:a=10:=ha.symm
    subst ha
    have hR:says10B k= { data:= #[] } :=by
      have h0:k≠0:=HM.out 0 (by omega)
      have h1:k≠1:=HM.out 1 (by omega)
      have h2:k≠2:=HM.out 2 (by omega)
      have h3:k≠3:=HM.out 3 (by omega)
      have h4:k≠4:=HM.out 4 (by omega)
      have h5:k≠5:=HM.out 5 (by omega)
      have h6:k≠6:=HM.out 6 (by omega)
      have h7:k≠7:=HM.out 7 (by omega)
      have h8:k≠8:=HM.out 8 (by omega)
      have h9:k≠9:=HM.out 9 (by omega)
      simp [says10B,saysB,h0,h1,h2,h3,h4,h5,h6,h7,h8,h9]
    have HR:=Lib.hid hR
    clear hR
    go_wp2_with fail
    go_ret
    exact ⟨by rw [HR.out];rfl,hB⟩
end Go.Proofs.YthceefjafklcmaaGreatDoor
namespace Go.Proofs.YthceefjafklcmaaGreatDoor
theorem row5 {f:Nat→Option Value} {z0 z1 z2 z3 z4:Value} (h:∀k z, [z0,z1,z2,z3,z4][k]? =some z→f k=some z):f 0=some z0∧f 1=some z1∧f 2=some z2∧f 3=some z3∧f 4=some z4:=
  ⟨h 0 _ rfl,h 1 _ rfl,h 2 _ rfl,h 3 _ rfl,h 4 _ rfl⟩
theorem row9 {f:Nat→Option Value} {z0 z1 z2 z3 z4 z5 z6 z7 z8:Value} (h:∀k z, [z0,z1,z2,z3,z4,z5,z6,z7,z8][k]? =some z→f k=some z):f 0=some z0∧f 1=some z1∧f 2=some z2∧f 3=some z3∧f 4=some z4∧f 5=some z5∧f 6=some z6∧f 7=some z7∧f 8=some z8:=
  ⟨h 0 _ rfl,h 1 _ rfl,h 2 _ rfl,h 3 _ rfl,h 4 _ rfl,h 5 _ rfl,h 6 _ rfl,h 7 _ rfl,h 8 _ rfl⟩
theorem row12 {f:Nat→Option Value} {z0 z1 z2 z3 z4 z5 z6 z7 z8 z9 z10 z11:Value} (h:∀k z, [z0,z1,z2,z3,z4,z5,z6,z7,z8,z9,z10,z11][k]? =some z→f k=some z):f 0=some z0∧f 1=some z1∧f 2=some z2∧f 3=some z3∧f 4=some z4∧f 5=some z5∧f 6=some z6∧f 7=some z7∧f 8=some z8∧f 9=some z9∧f 10=some z10∧f 11=some z11:=
  ⟨h 0 _ rfl,h 1 _ rfl,h 2 _ rfl,h 3 _ rfl,h 4 _ rfl,h 5 _ rfl,h 6 _ rfl,h 7 _ rfl,h 8 _ rfl,h 9 _ rfl,h 10 _ rfl,h 11 _ rfl⟩
end Go.Proofs.YthceefjafklcmaaGreatDoor
