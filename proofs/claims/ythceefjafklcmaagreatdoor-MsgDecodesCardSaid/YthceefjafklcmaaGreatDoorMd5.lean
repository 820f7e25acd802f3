/-
  Contracts of the functions that the law reaches: code.lay, conciliatorref10.Writer.number: a number is written. writer.text, Writer.text: a string is written.
-/
import Derived.Test.YthceefjafklcmaaGreatDoorMd4
namespace Go.Proofs.YthceefjafklcmaaGreatDoor
open Go.RowKit
set_option maxHeartbeats 4000000 in
set_option maxRecDepth 100000 in
theorem layInt_any (x:Int) (width:Nat) (hw8:width≤8) (w:World) (B wb:Nat) (v:Value) (bs:List UInt8) (h:Wr w B wb v bs) (hsz:bs.length+width≤140737488355328):
    Calls Tryz.prog 66 #[.pointer (some ⟨wb,0,none⟩), .int .i64 x, .int .i64 width] w fun e w'=>e= .returned (.tuple #[])∧∃v',Wr w' B wb v' (bs++be (x % 18446744073709551616).toNat width)∧WStep w w' wb v v':=by
  obtain ⟨i0,hi0,hz0,hz1,hz2⟩:=info_parts ginfo8
  obtain ⟨U,hU⟩:∃U,(x % 18446744073709551616).toNat=U:=⟨_,rfl⟩
  rw [hU]
  have HU:=Lib.hid hU
  have H0:=Lib.hid h
  clear hU
  go_enter Tryz.func66,Tryz.ntmps66
  go_wp2_with fail
  go_loopw [6] (fun i wr=>∃(r:Nat) (pre:List UInt8) (u:Value),r≤width∧i= .int .i64 ((r:Int) - 1)∧Hid (pre++be U r=be U width)∧Wr wr B wb u (bs++pre)∧WStep w wr wb v u) (fun i _=>(intOf i+1).toNat)
  case atStart=>exact ⟨width, [],v,Nat.le_refl _,rfl,by show _=_;rfl,by simpa using h,WStep.refl _ _ _⟩
  case round=>
    clear h
    obtain ⟨r,pre,u,hr,rfl,HP,h,hs⟩:=hrel
    cases r with
    | zero=>
      go_wp2_with fail
      go_returns
      exact ⟨rfl,u,by rw [←HP.out,show be U 0= [] from rfl,List.append_nil];exact h,hs⟩
    | succ r=>
      have hc:=h.cell
      have hf:=h.frz
      have hne:=h.ne
      have hpl:pre.length+(r+1)=width:=by have:=congrArg List.length HP.out;simpa [be_length] using this
      have hlt:=h.lt
      have ei:((r+1:Nat):Int) - 1=(r:Int):=by omega
      rw [ei]
      have hr8:r<8:=by omega
      have hwr:IntKind.i64.wrap (8*(r:Int))=8*(r:Int):=by simp [IntKind.wrap,IntKind.bits,IntKind.signed];omega
      obtain ⟨Y,hY⟩:∃Y:Nat,U / 256 ^ r=Y:=⟨_,rfl⟩
      obtain ⟨b,hb⟩:∃b:UInt8,UInt8.ofNat Y=b:=⟨_,rfl⟩
      have hu8:IntKind.u8.wrap (IntKind.u64.wrap x / 2 ^ (8*(r:Int)).toNat)=((b.toNat:Nat):Int):=by rw [u64_mod,HU.out,shr_nat,hY,byte_u8,hb]
      have hB:=h.base
      have ha:∀o,(wr.alloc o).cell? ⟨wb,0,none⟩=some u:=fun o=>keep_cell ((Below.refl _ _).alloc (Nat.le_refl _) o) hc hlt
      have hfa:∀o,(wr.alloc o).frozen? ⟨wb,0,none⟩=false:=fun o=>(((Below.refl _ _).alloc (Nat.le_refl _) o:Below wr.heap.size wr (wr.alloc o)).frozen (p:=⟨wb,0,none⟩) hlt).trans hf
      have HY:=Lib.hid hY
      have HB:=Lib.hid hb
      clear hY hb
      go_wp2_with fail
      go_region_law
        ((refine step_append_lies _ (by rfl) _ _ _ (by rfl) B 5 i0 _ 1 1 Tryz.underlying22 hi0 hz0 hz1 hz2 rfl (by omega) u (bs++pre).length (outs (bs++pre)) (by rfl) ((h.own.alloc _).drew) ⟨wr.heap.size,0,none⟩ 1 1 [.int .u8 b.toNat] (by rfl) (by rfl) (World.news_of_block (cs:= #[.int .u8 b.toNat]) (t:=5) (fr:=(0,0)) (heap_alloc_new wr _)) (by simp [Value.oneCell']) (by omega) (by rw [List.length_append];unfold maxLen;omega) (by rw [List.length_append];omega) (by simp;omega) (wr.heap.size+1) (by simp) ?_;intro gg cap w1 hown1 hgrow hat hlt1;have hc1:w1.cell? ⟨wb,0,none⟩=some u:=(hgrow.cell_far ⟨wb,0,none⟩ (by simp;omega) (Ne.symm hne)).trans (by simpa using ha _);have hf1:w1.frozen? ⟨wb,0,none⟩=false:=(hgrow.frozen_far ⟨wb,0,none⟩ (by simp;omega) (Ne.symm hne)).trans (by simpa using hfa _)))
      all_goals
        clear hc hf ha hfa hc1 hf1 hu8
        rw [outs_snoc] at hown1
        have hP:=h.push (v':= .slice (some ⟨gg,0,none⟩) ((bs++pre).length+1) cap) (bs':=bs++pre++ [b]) (((Below.refl _ _).alloc (Nat.le_refl _) _).drew) hgrow (by simpa [Nat.add_assoc] using hown1) (by
          rcases hat with e|e
          · left;rw [e];rfl
          · right;intro k hk;have:gg=k:=by simpa [Value.ownBlock] using hk
            omega)
        rw [List.length_append] at hP
        have hQ:=hs.trans hP.2
        have hP:=hP.1
        clear hown1 hgrow hat hlt1 h hs
        go_wp2_with fail
        go_roundw
        case rel=>exact ⟨r,pre++ [b],_,by omega,rfl,by show _=_;rw [←HP.out,List.append_assoc];simp only [be,HY.out,HB.out,List.singleton_append],by rw [←List.append_assoc];exact hP,hQ⟩
        case measure=>first|(simp [intOf];done)|(simp [intOf];omega)
set_option maxHeartbeats 4000000 in
set_option maxRecDepth 100000 in
theorem layU8_any (x:Int) (width:Nat) (hw8:width≤8) (w:World) (B wb:Nat) (v:Value) (bs:List UInt8) (h:Wr w B wb v bs) (hsz:bs.length+width≤140737488355328):
    Calls Tryz.prog 63 #[.pointer (some ⟨wb,0,none⟩), .int .u8 x, .int .i64 width] w fun e w'=>e= .returned (.tuple #[])∧∃v',Wr w' B wb v' (bs++be (x % 18446744073709551616).toNat width)∧WStep w w' wb v v':=by
  obtain ⟨i0,hi0,hz0,hz1,hz2⟩:=info_parts ginfo8
  obtain ⟨U,hU⟩:∃U,(x % 18446744073709551616).toNat=U:=⟨_,rfl⟩
  rw [hU]
  have HU:=Lib.hid hU
  have H0:=Lib.hid h
  clear hU
  go_enter Tryz.func63,Tryz.ntmps63
  go_wp2_with fail
  go_loopw [6] (fun i wr=>∃(r:Nat) (pre:List UInt8) (u:Value),r≤width∧i= .int .i64 ((r:Int) - 1)∧Hid (pre++be U r=be U width)∧Wr wr B wb u (bs++pre)∧WStep w wr wb v u) (fun i _=>(intOf i+1).toNat)
  case atStart=>exact ⟨width, [],v,Nat.le_refl _,rfl,by show _=_;rfl,by simpa using h,WStep.refl _ _ _⟩
  case round=>
    clear h
    obtain ⟨r,pre,u,hr,rfl,HP,h,hs⟩:=hrel
    cases r with
    | zero=>
      go_wp2_with fail
      go_returns
      exact ⟨rfl,u,by rw [←HP.out,show be U 0= [] from rfl,List.append_nil];exact h,hs⟩
    | succ r=>
      have hc:=h.cell
      have hf:=h.frz
      have hne:=h.ne
      have hpl:pre.length+(r+1)=width:=by have:=congrArg List.length HP.out;simpa [be_length] using this
      have hlt:=h.lt
      have ei:((r+1:Nat):Int) - 1=(r:Int):=by omega
      rw [ei]
      have hr8:r<8:=by omega
      have hwr:IntKind.i64.wrap (8*(r:Int))=8*(r:Int):=by simp [IntKind.wrap,IntKind.bits,IntKind.signed];omega
      obtain ⟨Y,hY⟩:∃Y:Nat,U / 256 ^ r=Y:=⟨_,rfl⟩
      obtain ⟨b,hb⟩:∃b:UInt8,UInt8.ofNat Y=b:=⟨_,rfl⟩
      have hu8:IntKind.u8.wrap (IntKind.u64.wrap x / 2 ^ (8*(r:Int)).toNat)=((b.toNat:Nat):Int):=by rw [u64_mod,HU.out,shr_nat,hY,byte_u8,hb]
      have hB:=h.base
      have ha:∀o,(wr.alloc o).cell? ⟨wb,0,none⟩=some u:=fun o=>keep_cell ((Below.refl _ _).alloc (Nat.le_refl _) o) hc hlt
      have hfa:∀o,(wr.alloc o).frozen? ⟨wb,0,none⟩=false:=fun o=>(((Below.refl _ _).alloc (Nat.le_refl _) o:Below wr.heap.size wr (wr.alloc o)).frozen (p:=⟨wb,0,none⟩) hlt).trans hf
      have HY:=Lib.hid hY
      have HB:=Lib.hid hb
      clear hY hb
      go_wp2_with fail
      go_region_law
        ((refine step_append_lies _ (by rfl) _ _ _ (by rfl) B 5 i0 _ 1 1 Tryz.underlying22 hi0 hz0 hz1 hz2 rfl (by omega) u (bs++pre).length (outs (bs++pre)) (by rfl) ((h.own.alloc _).drew) ⟨wr.heap.size,0,none⟩ 1 1 [.int .u8 b.toNat] (by rfl) (by rfl) (World.news_of_block (cs:= #[.int .u8 b.toNat]) (t:=5) (fr:=(0,0)) (heap_alloc_new wr _)) (by simp [Value.oneCell']) (by omega) (by rw [List.length_append];unfold maxLen;omega) (by rw [List.length_append];omega) (by simp;omega) (wr.heap.size+1) (by simp) ?_;intro gg cap w1 hown1 hgrow hat hlt1;have hc1:w1.cell? ⟨wb,0,none⟩=some u:=(hgrow.cell_far ⟨wb,0,none⟩ (by simp;omega) (Ne.symm hne)).trans (by simpa using ha _);have hf1:w1.frozen? ⟨wb,0,none⟩=false:=(hgrow.frozen_far ⟨wb,0,none⟩ (by simp;omega) (Ne.symm hne)).trans (by simpa using hfa _)))
      all_goals
        clear hc hf ha hfa hc1 hf1 hu8
        rw [outs_snoc] at hown1
        have hP:=h.push (v':= .slice (some ⟨gg,0,none⟩) ((bs++pre).length+1) cap) (bs':=bs++pre++ [b]) (((Below.refl _ _).alloc (Nat.le_refl _) _).drew) hgrow (by simpa [Nat.add_assoc] using hown1) (by
          rcases hat with e|e
          · left;rw [e];rfl
          · right;intro k hk;have:gg=k:=by simpa [Value.ownBlock] using hk
            omega)
        rw [List.length_append] at hP
        have hQ:=hs.trans hP.2
        have hP:=hP.1
        clear hown1 hgrow hat hlt1 h hs
        go_wp2_with fail
        go_roundw
        case rel=>exact ⟨r,pre++ [b],_,by omega,rfl,by show _=_;rw [←HP.out,List.append_assoc];simp only [be,HY.out,HB.out,List.singleton_append],by rw [←List.append_assoc];exact hP,hQ⟩
        case measure=>first|(simp [intOf];done)|(simp [intOf];omega)
set_option maxHeartbeats 4000000 in
set_option maxRecDepth 100000 in
theorem layI64_any (x:Int) (width:Nat) (hw8:width≤8) (w:World) (B wb:Nat) (v:Value) (bs:List UInt8) (h:Wr w B wb v bs) (hsz:bs.length+width≤140737488355328):
    Calls Tryz.prog 99 #[.pointer (some ⟨wb,0,none⟩), .int .i64 x, .int .i64 width] w fun e w'=>e= .returned (.tuple #[])∧∃v',Wr w' B wb v' (bs++be (x % 18446744073709551616).toNat width)∧WStep w w' wb v v':=by
  obtain ⟨i0,hi0,hz0,hz1,hz2⟩:=info_parts ginfo8
  obtain ⟨U,hU⟩:∃U,(x % 18446744073709551616).toNat=U:=⟨_,rfl⟩
  rw [hU]
  have HU:=Lib.hid hU
  have H0:=Lib.hid h
  clear hU
  go_enter Tryz.func99,Tryz.ntmps99
  go_wp2_with fail
  go_loopw [6] (fun i wr=>∃(r:Nat) (pre:List UInt8) (u:Value),r≤width∧i= .int .i64 ((r:Int) - 1)∧Hid (pre++be U r=be U width)∧Wr wr B wb u (bs++pre)∧WStep w wr wb v u) (fun i _=>(intOf i+1).toNat)
  case atStart=>exact ⟨width, [],v,Nat.le_refl _,rfl,by show _=_;rfl,by simpa using h,WStep.refl _ _ _⟩
  case round=>
    clear h
    obtain ⟨r,pre,u,hr,rfl,HP,h,hs⟩:=hrel
    cases r with
    | zero=>
      go_wp2_with fail
      go_returns
      exact ⟨rfl,u,by rw [←HP.out,show be U 0= [] from rfl,List.append_nil];exact h,hs⟩
    | succ r=>
      have hc:=h.cell
      have hf:=h.frz
      have hne:=h.ne
      have hpl:pre.length+(r+1)=width:=by have:=congrArg List.length HP.out;simpa [be_length] using this
      have hlt:=h.lt
      have ei:((r+1:Nat):Int) - 1=(r:Int):=by omega
      rw [ei]
      have hr8:r<8:=by omega
      have hwr:IntKind.i64.wrap (8*(r:Int))=8*(r:Int):=by simp [IntKind.wrap,IntKind.bits,IntKind.signed];omega
      obtain ⟨Y,hY⟩:∃Y:Nat,U / 256 ^ r=Y:=⟨_,rfl⟩
      obtain ⟨b,hb⟩:∃b:UInt8,UInt8.ofNat Y=b:=⟨_,rfl⟩
      have hu8:IntKind.u8.wrap (IntKind.u64.wrap x / 2 ^ (8*(r:Int)).toNat)=((b.toNat:Nat):Int):=by rw [u64_mod,HU.out,shr_nat,hY,byte_u8,hb]
      have hB:=h.base
      have ha:∀o,(wr.alloc o).cell? ⟨wb,0,none⟩=some u:=fun o=>keep_cell ((Below.refl _ _).alloc (Nat.le_refl _) o) hc hlt
      have hfa:∀o,(wr.alloc o).frozen? ⟨wb,0,none⟩=false:=fun o=>(((Below.refl _ _).alloc (Nat.le_refl _) o:Below wr.heap.size wr (wr.alloc o)).frozen (p:=⟨wb,0,none⟩) hlt).trans hf
      have HY:=Lib.hid hY
      have HB:=Lib.hid hb
      clear hY hb
      go_wp2_with fail
      go_region_law
        ((refine step_append_lies _ (by rfl) _ _ _ (by rfl) B 5 i0 _ 1 1 Tryz.underlying22 hi0 hz0 hz1 hz2 rfl (by omega) u (bs++pre).length (outs (bs++pre)) (by rfl) ((h.own.alloc _).drew) ⟨wr.heap.size,0,none⟩ 1 1 [.int .u8 b.toNat] (by rfl) (by rfl) (World.news_of_block (cs:= #[.int .u8 b.toNat]) (t:=5) (fr:=(0,0)) (heap_alloc_new wr _)) (by simp [Value.oneCell']) (by omega) (by rw [List.length_append];unfold maxLen;omega) (by rw [List.length_append];omega) (by simp;omega) (wr.heap.size+1) (by simp) ?_;intro gg cap w1 hown1 hgrow hat hlt1;have hc1:w1.cell? ⟨wb,0,none⟩=some u:=(hgrow.cell_far ⟨wb,0,none⟩ (by simp;omega) (Ne.symm hne)).trans (by simpa using ha _);have hf1:w1.frozen? ⟨wb,0,none⟩=false:=(hgrow.frozen_far ⟨wb,0,none⟩ (by simp;omega) (Ne.symm hne)).trans (by simpa using hfa _)))
      all_goals
        clear hc hf ha hfa hc1 hf1 hu8
        rw [outs_snoc] at hown1
        have hP:=h.push (v':= .slice (some ⟨gg,0,none⟩) ((bs++pre).length+1) cap) (bs':=bs++pre++ [b]) (((Below.refl _ _).alloc (Nat.le_refl _) _).drew) hgrow (by simpa [Nat.add_assoc] using hown1) (by
          rcases hat with e|e
          · left;rw [e];rfl
          · right;intro k hk;have:gg=k:=by simpa [Value.ownBlock] using hk
            omega)
        rw [List.length_append] at hP
        have hQ:=hs.trans hP.2
        have hP:=hP.1
        clear hown1 hgrow hat hlt1 h hs
        go_wp2_with fail
        go_roundw
        case rel=>exact ⟨r,pre++ [b],_,by omega,rfl,by show _=_;rw [←HP.out,List.append_assoc];simp only [be,HY.out,HB.out,List.singleton_append],by rw [←List.append_assoc];exact hP,hQ⟩
        case measure=>first|(simp [intOf];done)|(simp [intOf];omega)
set_option maxHeartbeats 4000000 in
set_option maxRecDepth 100000 in
theorem layU32_any (x:Int) (width:Nat) (hw8:width≤8) (w:World) (B wb:Nat) (v:Value) (bs:List UInt8) (h:Wr w B wb v bs) (hsz:bs.length+width≤140737488355328):
    Calls Tryz.prog 64 #[.pointer (some ⟨wb,0,none⟩), .int .u32 x, .int .i64 width] w fun e w'=>e= .returned (.tuple #[])∧∃v',Wr w' B wb v' (bs++be (x % 18446744073709551616).toNat width)∧WStep w w' wb v v':=by
  obtain ⟨i0,hi0,hz0,hz1,hz2⟩:=info_parts ginfo8
  obtain ⟨U,hU⟩:∃U,(x % 18446744073709551616).toNat=U:=⟨_,rfl⟩
  rw [hU]
  have HU:=Lib.hid hU
  have H0:=Lib.hid h
  clear hU
  go_enter Tryz.func64,Tryz.ntmps64
  go_wp2_with fail
  go_loopw [6] (fun i wr=>∃(r:Nat) (pre:List UInt8) (u:Value),r≤width∧i= .int .i64 ((r:Int) - 1)∧Hid (pre++be U r=be U width)∧Wr wr B wb u (bs++pre)∧WStep w wr wb v u) (fun i _=>(intOf i+1).toNat)
  case atStart=>exact ⟨width, [],v,Nat.le_refl _,rfl,by show _=_;rfl,by simpa using h,WStep.refl _ _ _⟩
  case round=>
    clear h
    obtain ⟨r,pre,u,hr,rfl,HP,h,hs⟩:=hrel
    cases r with
    | zero=>
      go_wp2_with fail
      go_returns
      exact ⟨rfl,u,by rw [←HP.out,show be U 0= [] from rfl,List.append_nil];exact h,hs⟩
    | succ r=>
      have hc:=h.cell
      have hf:=h.frz
      have hne:=h.ne
      have hpl:pre.length+(r+1)=width:=by have:=congrArg List.length HP.out;simpa [be_length] using this
      have hlt:=h.lt
      have ei:((r+1:Nat):Int) - 1=(r:Int):=by omega
      rw [ei]
      have hr8:r<8:=by omega
      have hwr:IntKind.i64.wrap (8*(r:Int))=8*(r:Int):=by simp [IntKind.wrap,IntKind.bits,IntKind.signed];omega
      obtain ⟨Y,hY⟩:∃Y:Nat,U / 256 ^ r=Y:=⟨_,rfl⟩
      obtain ⟨b,hb⟩:∃b:UInt8,UInt8.ofNat Y=b:=⟨_,rfl⟩
      have hu8:IntKind.u8.wrap (IntKind.u64.wrap x / 2 ^ (8*(r:Int)).toNat)=((b.toNat:Nat):Int):=by rw [u64_mod,HU.out,shr_nat,hY,byte_u8,hb]
      have hB:=h.base
      have ha:∀o,(wr.alloc o).cell? ⟨wb,0,none⟩=some u:=fun o=>keep_cell ((Below.refl _ _).alloc (Nat.le_refl _) o) hc hlt
      have hfa:∀o,(wr.alloc o).frozen? ⟨wb,0,none⟩=false:=fun o=>(((Below.refl _ _).alloc (Nat.le_refl _) o:Below wr.heap.size wr (wr.alloc o)).frozen (p:=⟨wb,0,none⟩) hlt).trans hf
      have HY:=Lib.hid hY
      have HB:=Lib.hid hb
      clear hY hb
      go_wp2_with fail
      go_region_law
        ((refine step_append_lies _ (by rfl) _ _ _ (by rfl) B 5 i0 _ 1 1 Tryz.underlying22 hi0 hz0 hz1 hz2 rfl (by omega) u (bs++pre).length (outs (bs++pre)) (by rfl) ((h.own.alloc _).drew) ⟨wr.heap.size,0,none⟩ 1 1 [.int .u8 b.toNat] (by rfl) (by rfl) (World.news_of_block (cs:= #[.int .u8 b.toNat]) (t:=5) (fr:=(0,0)) (heap_alloc_new wr _)) (by simp [Value.oneCell']) (by omega) (by rw [List.length_append];unfold maxLen;omega) (by rw [List.length_append];omega) (by simp;omega) (wr.heap.size+1) (by simp) ?_;intro gg cap w1 hown1 hgrow hat hlt1;have hc1:w1.cell? ⟨wb,0,none⟩=some u:=(hgrow.cell_far ⟨wb,0,none⟩ (by simp;omega) (Ne.symm hne)).trans (by simpa using ha _);have hf1:w1.frozen? ⟨wb,0,none⟩=false:=(hgrow.frozen_far ⟨wb,0,none⟩ (by simp;omega) (Ne.symm hne)).trans (by simpa using hfa _)))
      all_goals
        clear hc hf ha hfa hc1 hf1 hu8
        rw [outs_snoc] at hown1
        have hP:=h.push (v':= .slice (some ⟨gg,0,none⟩) ((bs++pre).length+1) cap) (bs':=bs++pre++ [b]) (((Below.refl _ _).alloc (Nat.le_refl _) _).drew) hgrow (by simpa [Nat.add_assoc] using hown1) (by
          rcases hat with e|e
          · left;rw [e];rfl
          · right;intro k hk;have:gg=k:=by simpa [Value.ownBlock] using hk
            omega)
        rw [List.length_append] at hP
        have hQ:=hs.trans hP.2
        have hP:=hP.1
        clear hown1 hgrow hat hlt1 h hs
        go_wp2_with fail
        go_roundw
        case rel=>exact ⟨r,pre++ [b],_,by omega,rfl,by show _=_;rw [←HP.out,List.append_assoc];simp only [be,HY.out,HB.out,List.singleton_append],by rw [←List.append_assoc];exact hP,hQ⟩
        case measure=>first|(simp [intOf];done)|(simp [intOf];omega)
set_option maxHeartbeats 4000000 in
set_option maxRecDepth 100000 in
theorem number_any (x:Int) (hx0:0≤x) (hx1:x<18446744073709551616) (width:Nat) (hw8:width≤8) (w:World) (B wb:Nat) (v:Value) (bs:List UInt8) (h:Wr w B wb v bs) (hsz:bs.length+width≤140737488355328):
    Calls Tryz.prog 81 #[.pointer (some ⟨wb,0,none⟩), .int .u64 x, .int .i64 width] w fun e w'=>e= .returned (.tuple #[])∧∃v',Wr w' B wb v' (bs++be (x % 18446744073709551616).toNat width)∧WStep w w' wb v v':=by
  obtain ⟨i0,hi0,hz0,hz1,hz2⟩:=info_parts ginfo8
  obtain ⟨U,hU⟩:∃U,(x % 18446744073709551616).toNat=U:=⟨_,rfl⟩
  rw [hU]
  have HU:=Lib.hid hU
  have H0:=Lib.hid h
  clear hU
  go_enter Tryz.func81,Tryz.ntmps81
  go_wp2_with fail
  go_loopw [6] (fun i wr=>∃(r:Nat) (pre:List UInt8) (u:Value),r≤width∧i= .int .i64 ((r:Int) - 1)∧Hid (pre++be U r=be U width)∧Wr wr B wb u (bs++pre)∧WStep w wr wb v u) (fun i _=>(intOf i+1).toNat)
  case atStart=>exact ⟨width, [],v,Nat.le_refl _,rfl,by show _=_;rfl,by simpa using h,WStep.refl _ _ _⟩
  case round=>
    clear h
    obtain ⟨r,pre,u,hr,rfl,HP,h,hs⟩:=hrel
    cases r with
    | zero=>
      go_wp2_with fail
      go_returns
      exact ⟨rfl,u,by rw [←HP.out,show be U 0= [] from rfl,List.append_nil];exact h,hs⟩
    | succ r=>
      have hc:=h.cell
      have hf:=h.frz
      have hne:=h.ne
      have hpl:pre.length+(r+1)=width:=by have:=congrArg List.length HP.out;simpa [be_length] using this
      have hlt:=h.lt
      have ei:((r+1:Nat):Int) - 1=(r:Int):=by omega
      rw [ei]
      have hr8:r<8:=by omega
      have hwr:IntKind.i64.wrap (8*(r:Int))=8*(r:Int):=by simp [IntKind.wrap,IntKind.bits,IntKind.signed];omega
      have hwr2:IntKind.u64.wrap (8*(r:Int))=8*(r:Int):=by simp [IntKind.wrap,IntKind.bits,IntKind.signed];omega
      obtain ⟨Y,hY⟩:∃Y:Nat,U / 256 ^ r=Y:=⟨_,rfl⟩
      obtain ⟨b,hb⟩:∃b:UInt8,UInt8.ofNat Y=b:=⟨_,rfl⟩
      have hu8:x / 2 ^ (8*r) % 256=((b.toNat:Nat):Int):=by
        have e:=shr_nat U r
        rw [show (8*(r:Int)).toNat=8*r by omega] at e
        rw [show x=(U:Int) by have:=HU.out;omega,e,hY, ←hb];simp
      have hB:=h.base
      have ha:∀o,(wr.alloc o).cell? ⟨wb,0,none⟩=some u:=fun o=>keep_cell ((Below.refl _ _).alloc (Nat.le_refl _) o) hc hlt
      have hfa:∀o,(wr.alloc o).frozen? ⟨wb,0,none⟩=false:=fun o=>(((Below.refl _ _).alloc (Nat.le_refl _) o:Below wr.heap.size wr (wr.alloc o)).frozen (p:=⟨wb,0,none⟩) hlt).trans hf
      have HY:=Lib.hid hY
      have HB:=Lib.hid hb
      clear hY hb
      go_wp2_with (at_builtin;refine wpList_append_lies _ rfl (.tmp 17) (.tmp 24) 22 (by rfl) B 5 i0 _ 1 1 Tryz.underlying22 hi0 hz0 hz1 hz2 rfl (by omega) u (bs++pre).length (outs (bs++pre)) (by rfl) (h.own.alloc _) ⟨wr.heap.size,0,none⟩ 1 1 [.int .u8 b.toNat] (by rfl) (by rfl) (World.news_of_block (cs:= #[.int .u8 b.toNat]) (t:=5) (fr:=(0,0)) (heap_alloc_new wr _)) (by simp [Value.oneCell']) (by omega) (by rw [List.length_append];unfold maxLen;omega) (by rw [List.length_append];omega) (by simp;omega) (wr.heap.size+1) (by simp) ?_;intro gg cap w1 hown1 hgrow hat hlt1;have hc1:w1.cell? ⟨wb,0,none⟩=some u:=(hgrow.cell_far ⟨wb,0,none⟩ (by simp;omega) (Ne.symm hne)).trans (by simpa using ha _);have hf1:w1.frozen? ⟨wb,0,none⟩=false:=(hgrow.frozen_far ⟨wb,0,none⟩ (by simp;omega) (Ne.symm hne)).trans (by simpa using hfa _))
      all_goals
        clear hc hf ha hfa hc1 hf1 hu8
        rw [outs_snoc] at hown1
        have hP:=h.push (v':= .slice (some ⟨gg,0,none⟩) ((bs++pre).length+1) cap) (bs':=bs++pre++ [b]) ((Below.refl _ _).alloc (Nat.le_refl _) _) hgrow (by simpa [Nat.add_assoc] using hown1) (by
          rcases hat with e|e
          · left;rw [e];rfl
          · right;intro k hk;have:gg=k:=by simpa [Value.ownBlock] using hk
            omega)
        rw [List.length_append] at hP
        have hQ:=hs.trans hP.2
        have hP:=hP.1
        clear hown1 hgrow hat hlt1 h hs
        go_roundw
        case rel=>exact ⟨r,pre++ [b],_,by omega,rfl,by show _=_;rw [←HP.out,List.append_assoc];simp only [be,HY.out,HB.out,List.singleton_append],by rw [←List.append_assoc];exact hP,hQ⟩
        case measure=>first|(simp [intOf];done)|(simp [intOf];omega)
end Go.Proofs.YthceefjafklcmaaGreatDoor
namespace Go.Proofs.YthceefjafklcmaaGreatDoor
open Go.RowKit
theorem run_append_str {P:Program} (w:World) (base:Nat) (t u ty e:TypeId) (i:TypeInfo) (ht:P.underlying t=some (.slice e)) (hu:P.underlying u=some .string) (hi:P.info? e=some i) (hz:i.zero=some (.int .u8 0))
    (hsize:i.size=1) (hby:i.bytes=1) (v:Value) (n:Nat) (xs:List Value) (hown:w.ownsRow base e 1 v n xs) (s:ByteArray)
    (h63:n+s.size≤maxLen) (hbytes:n+s.size≤140737488355328) (hbase:base≤w.heap.size):
    ∃ v' w',(Builtin.append_ #[t,u] ty #[v, .string s]).run P w= .ok v' w'∧w'.ownsRow base e 1 v' (n+s.size) (xs++Lib.strCells s)∧w.grownBy w' v.ownBlock∧
      (v'.ownBlock=v.ownBlock∨v'.ownBlock=some w.heap.size):=by
  obtain ⟨v',w',hr,h2,h3,h4⟩:=Lib.run_append_own_string (P:=P) w base t u ty e i ht hu hi hz hsize hby v n xs hown s h63 hbytes hbase
  refine ⟨v',w',hr,h2,h3, ?_⟩
  have hxl:xs.length=n:=by simpa using hown.1
  rcases hown.2 with ⟨rfl,rfl⟩|⟨g,cap,cur,rfl,hbg,hg,hnc,hcm,hcs,htake⟩
  · by_cases hm:s.size=0
    · rw [h4.2 ⟨rfl,hm⟩];exact .inl rfl
    · have hr2:=run_append_nil_string (P:=P) w t u ty e i (.int .u8 0) ht hu hi hz s (by omega) (by omega) (by rw [hby];omega)
      rw [hr] at hr2
      injection hr2 with hv _
      right;rw [hv];rfl
  · by_cases hroom:n+s.size≤cap
    · have hcs':cur.size=cap:=by simpa using hcs
      have hr2:=Lib.run_append_room_string (P:=P) w t u ty e i ht hu hi hsize g n cap cur hg s hroom (by omega)
      rw [hr] at hr2
      injection hr2 with hv _
      left;rw [hv];rfl
    · have hr2:=Lib.run_append_grow_string (P:=P) w t u ty e i (.int .u8 0) ht hu hi hz ⟨g,0,none⟩ n cap xs (by rw [hsize];simpa using hxl) (hown.cells (g:=g) rfl) s (by omega) (by simp only [maxLen] at h63;omega) (by rw [hby];exact growslice_fits (by omega) (by omega))
      rw [hr] at hr2
      injection hr2 with hv _
      right;rw [hv];rfl
theorem owns_slice {w:World} {base:Nat} {e:TypeId} {size:Nat} {v:Value} {n:Nat} {xs:List Value} (h:w.ownsRow base e size v n xs):∃ao c,v= .slice ao n c:=by
  rcases h.2 with ⟨rfl,rfl⟩|⟨g,cap,cur,rfl,_⟩
  · exact ⟨none,0,rfl⟩
  · exact ⟨_,cap,rfl⟩
theorem wpList_append_str {P:Program} (w:World) {ops:Array Oper} {rest:List Oper} {o:Oper} {a:Act} {Q:Exit→Act→World→Prop} (hgd:o.guard=none) (sl x:Operand) (t u:TypeId)
    (ho:o.op= .call { callee:= .builtin .append,args:= #[sl,x],argTypes:= #[t,u] })
    (base:Nat) (e:TypeId) (i:TypeInfo) (ht:P.underlying t=some (.slice e)) (hu:P.underlying u=some .string) (hi:P.info? e=some i) (hz:i.zero=some (.int .u8 0))
    (hsize:i.size=1) (hby:i.bytes=1)
    (v:Value) (n:Nat) (xs:List Value) (hs:a.eval sl=v) (hown:w.ownsRow base e 1 v n xs) (s:ByteArray) (hx:a.eval x= .string s)
    (h63:n+s.size≤maxLen) (hbytes:n+s.size≤140737488355328) (hbase:base≤w.heap.size)
    (h:∀v' w',w'.ownsRow base e 1 v' (n+s.size) (xs++Lib.strCells s)→w.grownBy w' v.ownBlock→(v'.ownBlock=v.ownBlock∨v'.ownBlock=some w.heap.size)→wpList P ops Q rest (a.put o.dst v') w'):wpList P ops Q (o::rest) a w:=by
  refine wpList_plain hgd fun K hK=> ?_
  obtain ⟨v',w',hr,h2,h3,h4⟩:=run_append_str (P:=P) w base t u o.type e i ht hu hi hz hsize hby v n xs hown s h63 hbytes hbase
  unfold Oper.wp execOp
  simp only [ho,resolve,invoke,builtin,Sem.run_bind,Sem.run_pure,Result.andThen_ok,List.map_toArray,List.map_cons,List.map_nil,hs,hx,hr]
  exact hK _ _ (h v' w' h2 h3 h4)
def encS (s:ByteArray):List UInt8:=be s.size 4++s.data.toList
theorem encS_length (s:ByteArray):(encS s).length=4+s.size:=by
  have h:s.data.toList.length=s.size:=Array.length_toList
  rw [encS,List.length_append,be_length,h]
theorem outs_str (l:List UInt8) (s:ByteArray):outs l++Lib.strCells s=outs (l++s.data.toList):=by simp [outs,Lib.strCells]
theorem len_mod (n:Nat) (h:n≤140737488355328):((n:Int) % 18446744073709551616).toNat=n:=by omega
set_option maxHeartbeats 4000000 in
set_option maxRecDepth 100000 in
theorem text_any (s:ByteArray) (w:World) (B wb:Nat) (v:Value) (bs:List UInt8) (h:Wr w B wb v bs) (hsz:bs.length+(encS s).length≤140737488355328):
    Calls Tryz.prog 100 #[.pointer (some ⟨wb,0,none⟩), .string s] w fun e w'=>e= .returned (.tuple #[])∧∃v',Wr w' B wb v' (bs++encS s)∧WStep w w' wb v v':=by
  obtain ⟨i0,hi0,hz0,hz1,hz2⟩:=info_parts ginfo8
  rw [encS_length] at hsz
  have hc:=layInt_any s.size 4 (by omega) w B wb v bs h (by omega)
  rw [len_mod _ (by omega)] at hc
  have HC:=Lib.hid hc
  have hb0:(be s.size 4).length=4:=be_length _ _
  clear hc
  go_enter Tryz.func100,Tryz.ntmps100
  go_wp2_with (first
    |(go_at_call 66;refine HC.out.mono ?_;rintro e w1 ⟨rfl,v1,h1,s1⟩;have hc1:=h1.cell;have hf1:=h1.frz;have hB:=h1.base;have hlt:=h1.lt;have hown1:w1.ownsRow B 5 1 v1 (bs.length+4) (outs (bs++be s.size 4)):=by have:=h1.own;rwa [List.length_append,hb0] at this)
    |(at_builtin;refine wpList_append_str _ rfl (.tmp 12) (.tmp 13) 22 9 (by rfl) B 5 i0 Tryz.underlying22 Tryz.underlying9 hi0 hz0 hz1 hz2 v1 (bs.length+4) (outs (bs++be s.size 4)) (by rfl) hown1 s (by rfl) (by unfold maxLen;omega) (by omega) (by omega) ?_;intro v2 w2 hown2 hgrow2 hat2;obtain ⟨ao,cc,rfl⟩:=owns_slice hown2;have hc2:w2.cell? ⟨wb,0,none⟩=some v1:=(hgrow2.cell_far ⟨wb,0,none⟩ hlt (Ne.symm h1.ne)).trans hc1;have hf2:w2.frozen? ⟨wb,0,none⟩=false:=(hgrow2.frozen_far ⟨wb,0,none⟩ hlt (Ne.symm h1.ne)).trans hf1))
  go_returns
  rw [outs_str] at hown2
  have hl:(bs++be s.size 4++s.data.toList).length=bs.length+4+s.size:=by
    have h1:s.data.toList.length=s.size:=Array.length_toList
    rw [List.length_append,List.length_append,hb0,h1]
  have hP:=h1.push (v':= .slice ao (bs.length+4+s.size) cc) (bs':=bs++be s.size 4++s.data.toList) (Below.refl _ _) hgrow2 (by rw [hl];exact hown2) (by
    rcases hat2 with e|e
    · exact .inl e
    · right;intro k hk;rw [e] at hk;injection hk with hk;omega)
  exact ⟨rfl, .slice ao (bs.length+4+s.size) cc,by rw [encS, ←List.append_assoc];exact hP.1,s1.trans hP.2⟩
set_option maxHeartbeats 4000000 in
set_option maxRecDepth 100000 in
theorem refText_any (s:ByteArray) (w:World) (B wb:Nat) (v:Value) (bs:List UInt8) (h:Wr w B wb v bs) (hsz:bs.length+(encS s).length≤140737488355328):
    Calls Tryz.prog 105 #[.pointer (some ⟨wb,0,none⟩), .string s] w fun e w'=>e= .returned (.tuple #[])∧∃v',Wr w' B wb v' (bs++encS s)∧WStep w w' wb v v':=by
  obtain ⟨i0,hi0,hz0,hz1,hz2⟩:=info_parts ginfo8
  rw [encS_length] at hsz
  have hc:=number_any s.size (by omega) (by omega) 4 (by omega) w B wb v bs h (by omega)
  rw [len_mod _ (by omega)] at hc
  have HC:=Lib.hid hc
  have hwr:IntKind.u64.wrap (s.size:Int)=(s.size:Int):=by simp [IntKind.wrap,IntKind.bits,IntKind.signed];omega
  have hb0:(be s.size 4).length=4:=be_length _ _
  clear hc
  go_enter Tryz.func105,Tryz.ntmps105
  go_wp2_with (first
    |(go_at_call 81;refine HC.out.mono ?_;rintro e w1 ⟨rfl,v1,h1,s1⟩;have hc1:=h1.cell;have hf1:=h1.frz;have hB:=h1.base;have hlt:=h1.lt;have hown1:w1.ownsRow B 5 1 v1 (bs.length+4) (outs (bs++be s.size 4)):=by have:=h1.own;rwa [List.length_append,hb0] at this)
    |(at_builtin;refine wpList_append_str _ rfl (.tmp 13) (.tmp 14) 22 9 (by rfl) B 5 i0 Tryz.underlying22 Tryz.underlying9 hi0 hz0 hz1 hz2 v1 (bs.length+4) (outs (bs++be s.size 4)) (by rfl) hown1 s (by rfl) (by unfold maxLen;omega) (by omega) (by omega) ?_;intro v2 w2 hown2 hgrow2 hat2;obtain ⟨ao,cc,rfl⟩:=owns_slice hown2;have hc2:w2.cell? ⟨wb,0,none⟩=some v1:=(hgrow2.cell_far ⟨wb,0,none⟩ hlt (Ne.symm h1.ne)).trans hc1;have hf2:w2.frozen? ⟨wb,0,none⟩=false:=(hgrow2.frozen_far ⟨wb,0,none⟩ hlt (Ne.symm h1.ne)).trans hf1))
  go_returns
  rw [outs_str] at hown2
  have hl:(bs++be s.size 4++s.data.toList).length=bs.length+4+s.size:=by
    have h1:s.data.toList.length=s.size:=Array.length_toList
    rw [List.length_append,List.length_append,hb0,h1]
  have hP:=h1.push (v':= .slice ao (bs.length+4+s.size) cc) (bs':=bs++be s.size 4++s.data.toList) (Below.refl _ _) hgrow2 (by rw [hl];exact hown2) (by
    rcases hat2 with e|e
    · exact .inl e
    · right;intro k hk;rw [e] at hk;injection hk with hk;omega)
  exact ⟨rfl, .slice ao (bs.length+4+s.size) cc,by rw [encS, ←List.append_assoc];exact hP.1,s1.trans hP.2⟩
end Go.Proofs.YthceefjafklcmaaGreatDoor
