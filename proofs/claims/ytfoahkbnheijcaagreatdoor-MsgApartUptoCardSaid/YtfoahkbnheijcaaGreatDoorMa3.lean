/-
  Contracts of the functions that the law reaches: code.lay.
-/
import Derived.Test.YtfoahkbnheijcaaGreatDoorMa2
namespace Go.Proofs.YtfoahkbnheijcaaGreatDoor
open Go.RowKit
set_option maxHeartbeats 8000000
set_option maxRecDepth 100000 in
theorem X8 (x:Int) (width:Nat) (hw8:width<=8) (w:World) (B wb:Nat) (v:Value) (bs:List UInt8) (h:Wr w B wb v bs) (hsz:bs.length+width<=140737488355328):
 Calls Tryz.prog 150 #[.pointer (some ⟨wb,0,none⟩), .int .i64 x, .int .i64 width] w fun e w'=>e= .returned (.tuple #[])/\∃v',Wr w' B wb v' (bs++be (x % 18446744073709551616).toNat width)/\WStep w w' wb v v':=by
 obtain ⟨i0,hi0,hz0,hz1,hz2⟩:=info_parts Yj
 obtain ⟨U,hU⟩:∃U,(x % 18446744073709551616).toNat=U:=⟨_,rfl⟩
 rw [hU]
 have HU:=qh hU
 have H0:=qh h
 clear hU
 go_enter Tryz.func150,Tryz.ntmps150
 go_wp2_with fail
 go_loopw [6] (fun i wr=>∃(r:Nat) (pre:List UInt8) (u:Value),r<=width/\i= .int .i64 ((r:Int) - 1)/\Hid (pre++be U r=be U width)/\Wr wr B wb u (bs++pre)/\WStep w wr wb v u) (fun i _=>(intOf i+1).toNat)
 case atStart=>exact ⟨width, [],v,Nat.le_refl _,rfl,by show _=_;rfl,by simpa using h,WStep.refl _ _ _⟩
 case round=>
  clear h
  obtain ⟨r,pre,u,hr,rfl,HP,h,hs⟩:=hrel
  cases r with
  | zero=>
    go_wp2_with fail
    go_returns
    exact ⟨rfl,u,by rw [<-HP.out,show be U 0= [] from rfl,List.append_nil];exact h,hs⟩
  | succ r=>
    have hc:=h.cell
    have hf:=h.frz
    have hne:=h.ne
    have hpl:pre.length+(r+1)=width:=by have:=congrArg List.length HP.out;simpa [Zc] using this
    have hlt:=h.lt
    have ei:((r+1:Nat):Int) - 1=(r:Int):=by omega
    rw [ei]
    have hr8:r<8:=by omega
    have hwr:IntKind.i64.wrap (8*(r:Int))=8*(r:Int):=by simp [IntKind.wrap,IntKind.bits,IntKind.signed];omega
    obtain ⟨Y,hY⟩:∃Y:Nat,U / 256 ^ r=Y:=⟨_,rfl⟩
    obtain ⟨b,hb⟩:∃b:UInt8,UInt8.ofNat Y=b:=⟨_,rfl⟩
    have hu8:IntKind.u8.wrap (IntKind.u64.wrap x / 2 ^ (8*(r:Int)).toNat)=((b.toNat:Nat):Int):=by rw [Ks,HU.out,Q4,hY,K4,hb]
    have hB:=h.base
    have ha:∀o,(wr.alloc o).cell? ⟨wb,0,none⟩=some u:=fun o=>Zd ((Below.refl _ _).alloc (Nat.le_refl _) o) hc hlt
    have hfa:∀o,(wr.alloc o).frozen? ⟨wb,0,none⟩=false:=fun o=>(((Below.refl _ _).alloc (Nat.le_refl _) o:Below wr.heap.size wr (wr.alloc o)).frozen (p:=⟨wb,0,none⟩) hlt).trans hf
    have HY:=qh hY
    have HB:=qh hb
    clear hY hb
    go_wp2_with fail
    go_region_law
     ((refine step_append_lies _ (by rfl) _ _ _ (by rfl) B 5 i0 _ 1 1 Tryz.underlying34 hi0 hz0 hz1 hz2 rfl (by omega) u (bs++pre).length (outs (bs++pre)) (by rfl) ((h.own.alloc _).drew) ⟨wr.heap.size,0,none⟩ 1 1 [.int .u8 b.toNat] (by rfl) (by rfl) (World.news_of_block (cs:= #[.int .u8 b.toNat]) (t:=5) (fr:=(0,0)) (heap_alloc_new wr _)) (by simp [Value.oneCell']) (by omega) (by rw [List.length_append];unfold maxLen;omega) (by rw [List.length_append];omega) (by simp;omega) (wr.heap.size+1) (by simp) ?_;intro gg cap w1 hown1 hgrow hat hlt1;have hc1:w1.cell? ⟨wb,0,none⟩=some u:=(hgrow.cell_far ⟨wb,0,none⟩ (by simp;omega) (Ne.symm hne)).trans (by simpa using ha _);have hf1:w1.frozen? ⟨wb,0,none⟩=false:=(hgrow.frozen_far ⟨wb,0,none⟩ (by simp;omega) (Ne.symm hne)).trans (by simpa using hfa _)))
    all_goals
     clear hc hf ha hfa hc1 hf1 hu8
     rw [Kw] at hown1
     have hP:=h.push (v':= .slice (some ⟨gg,0,none⟩) ((bs++pre).length+1) cap) (bs':=bs++pre++ [b]) (((Below.refl _ _).alloc (Nat.le_refl _) _).drew) hgrow (by simpa [Nat.add_assoc] using hown1) (by
      rcases hat with e|e
      .left;rw [e];rfl
      .right;intro k hk;have:gg=k:=by simpa [Value.ownBlock] using hk
       omega)
     rw [List.length_append] at hP
     have hQ:=hs.trans hP.2
     have hP:=hP.1
     clear hown1 hgrow hat hlt1 h hs
     go_wp2_with fail
     go_roundw
     case rel=>exact ⟨r,pre++ [b],_,by omega,rfl,by show _=_;rw [<-HP.out,List.append_assoc];simp only [be,HY.out,HB.out,List.singleton_append],by rw [<-List.append_assoc];exact hP,hQ⟩
     case measure=>first|(simp [intOf];done)|(simp [intOf];omega)
set_option maxRecDepth 100000 in
theorem Xx (x:Int) (width:Nat) (hw8:width<=8) (w:World) (B wb:Nat) (v:Value) (bs:List UInt8) (h:Wr w B wb v bs) (hsz:bs.length+width<=140737488355328):
 Calls Tryz.prog 147 #[.pointer (some ⟨wb,0,none⟩), .int .u8 x, .int .i64 width] w fun e w'=>e= .returned (.tuple #[])/\∃v',Wr w' B wb v' (bs++be (x % 18446744073709551616).toNat width)/\WStep w w' wb v v':=by
 obtain ⟨i0,hi0,hz0,hz1,hz2⟩:=info_parts Yj
 obtain ⟨U,hU⟩:∃U,(x % 18446744073709551616).toNat=U:=⟨_,rfl⟩
 rw [hU]
 have HU:=qh hU
 have H0:=qh h
 clear hU
 go_enter Tryz.func147,Tryz.ntmps147
 go_wp2_with fail
 go_loopw [6] (fun i wr=>∃(r:Nat) (pre:List UInt8) (u:Value),r<=width/\i= .int .i64 ((r:Int) - 1)/\Hid (pre++be U r=be U width)/\Wr wr B wb u (bs++pre)/\WStep w wr wb v u) (fun i _=>(intOf i+1).toNat)
 case atStart=>exact ⟨width, [],v,Nat.le_refl _,rfl,by show _=_;rfl,by simpa using h,WStep.refl _ _ _⟩
 case round=>
  clear h
  obtain ⟨r,pre,u,hr,rfl,HP,h,hs⟩:=hrel
  cases r with
  | zero=>
    go_wp2_with fail
    go_returns
    exact ⟨rfl,u,by rw [<-HP.out,show be U 0= [] from rfl,List.append_nil];exact h,hs⟩
  | succ r=>
    have hc:=h.cell
    have hf:=h.frz
    have hne:=h.ne
    have hpl:pre.length+(r+1)=width:=by have:=congrArg List.length HP.out;simpa [Zc] using this
    have hlt:=h.lt
    have ei:((r+1:Nat):Int) - 1=(r:Int):=by omega
    rw [ei]
    have hr8:r<8:=by omega
    have hwr:IntKind.i64.wrap (8*(r:Int))=8*(r:Int):=by simp [IntKind.wrap,IntKind.bits,IntKind.signed];omega
    obtain ⟨Y,hY⟩:∃Y:Nat,U / 256 ^ r=Y:=⟨_,rfl⟩
    obtain ⟨b,hb⟩:∃b:UInt8,UInt8.ofNat Y=b:=⟨_,rfl⟩
    have hu8:IntKind.u8.wrap (IntKind.u64.wrap x / 2 ^ (8*(r:Int)).toNat)=((b.toNat:Nat):Int):=by rw [Ks,HU.out,Q4,hY,K4,hb]
    have hB:=h.base
    have ha:∀o,(wr.alloc o).cell? ⟨wb,0,none⟩=some u:=fun o=>Zd ((Below.refl _ _).alloc (Nat.le_refl _) o) hc hlt
    have hfa:∀o,(wr.alloc o).frozen? ⟨wb,0,none⟩=false:=fun o=>(((Below.refl _ _).alloc (Nat.le_refl _) o:Below wr.heap.size wr (wr.alloc o)).frozen (p:=⟨wb,0,none⟩) hlt).trans hf
    have HY:=qh hY
    have HB:=qh hb
    clear hY hb
    go_wp2_with fail
    go_region_law
     ((refine step_append_lies _ (by rfl) _ _ _ (by rfl) B 5 i0 _ 1 1 Tryz.underlying34 hi0 hz0 hz1 hz2 rfl (by omega) u (bs++pre).length (outs (bs++pre)) (by rfl) ((h.own.alloc _).drew) ⟨wr.heap.size,0,none⟩ 1 1 [.int .u8 b.toNat] (by rfl) (by rfl) (World.news_of_block (cs:= #[.int .u8 b.toNat]) (t:=5) (fr:=(0,0)) (heap_alloc_new wr _)) (by simp [Value.oneCell']) (by omega) (by rw [List.length_append];unfold maxLen;omega) (by rw [List.length_append];omega) (by simp;omega) (wr.heap.size+1) (by simp) ?_;intro gg cap w1 hown1 hgrow hat hlt1;have hc1:w1.cell? ⟨wb,0,none⟩=some u:=(hgrow.cell_far ⟨wb,0,none⟩ (by simp;omega) (Ne.symm hne)).trans (by simpa using ha _);have hf1:w1.frozen? ⟨wb,0,none⟩=false:=(hgrow.frozen_far ⟨wb,0,none⟩ (by simp;omega) (Ne.symm hne)).trans (by simpa using hfa _)))
    all_goals
     clear hc hf ha hfa hc1 hf1 hu8
     rw [Kw] at hown1
     have hP:=h.push (v':= .slice (some ⟨gg,0,none⟩) ((bs++pre).length+1) cap) (bs':=bs++pre++ [b]) (((Below.refl _ _).alloc (Nat.le_refl _) _).drew) hgrow (by simpa [Nat.add_assoc] using hown1) (by
      rcases hat with e|e
      .left;rw [e];rfl
      .right;intro k hk;have:gg=k:=by simpa [Value.ownBlock] using hk
       omega)
     rw [List.length_append] at hP
     have hQ:=hs.trans hP.2
     have hP:=hP.1
     clear hown1 hgrow hat hlt1 h hs
     go_wp2_with fail
     go_roundw
     case rel=>exact ⟨r,pre++ [b],_,by omega,rfl,by show _=_;rw [<-HP.out,List.append_assoc];simp only [be,HY.out,HB.out,List.singleton_append],by rw [<-List.append_assoc];exact hP,hQ⟩
     case measure=>first|(simp [intOf];done)|(simp [intOf];omega)
set_option maxRecDepth 100000 in
theorem zal (x:Int) (width:Nat) (hw8:width<=8) (w:World) (B wb:Nat) (v:Value) (bs:List UInt8) (h:Wr w B wb v bs) (hsz:bs.length+width<=140737488355328):
 Calls Tryz.prog 177 #[.pointer (some ⟨wb,0,none⟩), .int .i64 x, .int .i64 width] w fun e w'=>e= .returned (.tuple #[])/\∃v',Wr w' B wb v' (bs++be (x % 18446744073709551616).toNat width)/\WStep w w' wb v v':=by
 obtain ⟨i0,hi0,hz0,hz1,hz2⟩:=info_parts Yj
 obtain ⟨U,hU⟩:∃U,(x % 18446744073709551616).toNat=U:=⟨_,rfl⟩
 rw [hU]
 have HU:=qh hU
 have H0:=qh h
 clear hU
 go_enter Tryz.func177,Tryz.ntmps177
 go_wp2_with fail
 go_loopw [6] (fun i wr=>∃(r:Nat) (pre:List UInt8) (u:Value),r<=width/\i= .int .i64 ((r:Int) - 1)/\Hid (pre++be U r=be U width)/\Wr wr B wb u (bs++pre)/\WStep w wr wb v u) (fun i _=>(intOf i+1).toNat)
 case atStart=>exact ⟨width, [],v,Nat.le_refl _,rfl,by show _=_;rfl,by simpa using h,WStep.refl _ _ _⟩
 case round=>
  clear h
  obtain ⟨r,pre,u,hr,rfl,HP,h,hs⟩:=hrel
  cases r with
  | zero=>
    go_wp2_with fail
    go_returns
    exact ⟨rfl,u,by rw [<-HP.out,show be U 0= [] from rfl,List.append_nil];exact h,hs⟩
  | succ r=>
    have hc:=h.cell
    have hf:=h.frz
    have hne:=h.ne
    have hpl:pre.length+(r+1)=width:=by have:=congrArg List.length HP.out;simpa [Zc] using this
    have hlt:=h.lt
    have ei:((r+1:Nat):Int) - 1=(r:Int):=by omega
    rw [ei]
    have hr8:r<8:=by omega
    have hwr:IntKind.i64.wrap (8*(r:Int))=8*(r:Int):=by simp [IntKind.wrap,IntKind.bits,IntKind.signed];omega
    obtain ⟨Y,hY⟩:∃Y:Nat,U / 256 ^ r=Y:=⟨_,rfl⟩
    obtain ⟨b,hb⟩:∃b:UInt8,UInt8.ofNat Y=b:=⟨_,rfl⟩
    have hu8:IntKind.u8.wrap (IntKind.u64.wrap x / 2 ^ (8*(r:Int)).toNat)=((b.toNat:Nat):Int):=by rw [Ks,HU.out,Q4,hY,K4,hb]
    have hB:=h.base
    have ha:∀o,(wr.alloc o).cell? ⟨wb,0,none⟩=some u:=fun o=>Zd ((Below.refl _ _).alloc (Nat.le_refl _) o) hc hlt
    have hfa:∀o,(wr.alloc o).frozen? ⟨wb,0,none⟩=false:=fun o=>(((Below.refl _ _).alloc (Nat.le_refl _) o:Below wr.heap.size wr (wr.alloc o)).frozen (p:=⟨wb,0,none⟩) hlt).trans hf
    have HY:=qh hY
    have HB:=qh hb
    clear hY hb
    go_wp2_with fail
    go_region_law
     ((refine step_append_lies _ (by rfl) _ _ _ (by rfl) B 5 i0 _ 1 1 Tryz.underlying34 hi0 hz0 hz1 hz2 rfl (by omega) u (bs++pre).length (outs (bs++pre)) (by rfl) ((h.own.alloc _).drew) ⟨wr.heap.size,0,none⟩ 1 1 [.int .u8 b.toNat] (by rfl) (by rfl) (World.news_of_block (cs:= #[.int .u8 b.toNat]) (t:=5) (fr:=(0,0)) (heap_alloc_new wr _)) (by simp [Value.oneCell']) (by omega) (by rw [List.length_append];unfold maxLen;omega) (by rw [List.length_append];omega) (by simp;omega) (wr.heap.size+1) (by simp) ?_;intro gg cap w1 hown1 hgrow hat hlt1;have hc1:w1.cell? ⟨wb,0,none⟩=some u:=(hgrow.cell_far ⟨wb,0,none⟩ (by simp;omega) (Ne.symm hne)).trans (by simpa using ha _);have hf1:w1.frozen? ⟨wb,0,none⟩=false:=(hgrow.frozen_far ⟨wb,0,none⟩ (by simp;omega) (Ne.symm hne)).trans (by simpa using hfa _)))
    all_goals
     clear hc hf ha hfa hc1 hf1 hu8
     rw [Kw] at hown1
     have hP:=h.push (v':= .slice (some ⟨gg,0,none⟩) ((bs++pre).length+1) cap) (bs':=bs++pre++ [b]) (((Below.refl _ _).alloc (Nat.le_refl _) _).drew) hgrow (by simpa [Nat.add_assoc] using hown1) (by
      rcases hat with e|e
      .left;rw [e];rfl
      .right;intro k hk;have:gg=k:=by simpa [Value.ownBlock] using hk
       omega)
     rw [List.length_append] at hP
     have hQ:=hs.trans hP.2
     have hP:=hP.1
     clear hown1 hgrow hat hlt1 h hs
     go_wp2_with fail
     go_roundw
     case rel=>exact ⟨r,pre++ [b],_,by omega,rfl,by show _=_;rw [<-HP.out,List.append_assoc];simp only [be,HY.out,HB.out,List.singleton_append],by rw [<-List.append_assoc];exact hP,hQ⟩
     case measure=>first|(simp [intOf];done)|(simp [intOf];omega)
set_option maxRecDepth 100000 in
theorem zq4 (x:Int) (width:Nat) (hw8:width<=8) (w:World) (B wb:Nat) (v:Value) (bs:List UInt8) (h:Wr w B wb v bs) (hsz:bs.length+width<=140737488355328):
 Calls Tryz.prog 148 #[.pointer (some ⟨wb,0,none⟩), .int .u32 x, .int .i64 width] w fun e w'=>e= .returned (.tuple #[])/\∃v',Wr w' B wb v' (bs++be (x % 18446744073709551616).toNat width)/\WStep w w' wb v v':=by
 obtain ⟨i0,hi0,hz0,hz1,hz2⟩:=info_parts Yj
 obtain ⟨U,hU⟩:∃U,(x % 18446744073709551616).toNat=U:=⟨_,rfl⟩
 rw [hU]
 have HU:=qh hU
 have H0:=qh h
 clear hU
 go_enter Tryz.func148,Tryz.ntmps148
 go_wp2_with fail
 go_loopw [6] (fun i wr=>∃(r:Nat) (pre:List UInt8) (u:Value),r<=width/\i= .int .i64 ((r:Int) - 1)/\Hid (pre++be U r=be U width)/\Wr wr B wb u (bs++pre)/\WStep w wr wb v u) (fun i _=>(intOf i+1).toNat)
 case atStart=>exact ⟨width, [],v,Nat.le_refl _,rfl,by show _=_;rfl,by simpa using h,WStep.refl _ _ _⟩
 case round=>
  clear h
  obtain ⟨r,pre,u,hr,rfl,HP,h,hs⟩:=hrel
  cases r with
  | zero=>
    go_wp2_with fail
    go_returns
    exact ⟨rfl,u,by rw [<-HP.out,show be U 0= [] from rfl,List.append_nil];exact h,hs⟩
  | succ r=>
    have hc:=h.cell
    have hf:=h.frz
    have hne:=h.ne
    have hpl:pre.length+(r+1)=width:=by have:=congrArg List.length HP.out;simpa [Zc] using this
    have hlt:=h.lt
    have ei:((r+1:Nat):Int) - 1=(r:Int):=by omega
    rw [ei]
    have hr8:r<8:=by omega
    have hwr:IntKind.i64.wrap (8*(r:Int))=8*(r:Int):=by simp [IntKind.wrap,IntKind.bits,IntKind.signed];omega
    obtain ⟨Y,hY⟩:∃Y:Nat,U / 256 ^ r=Y:=⟨_,rfl⟩
    obtain ⟨b,hb⟩:∃b:UInt8,UInt8.ofNat Y=b:=⟨_,rfl⟩
    have hu8:IntKind.u8.wrap (IntKind.u64.wrap x / 2 ^ (8*(r:Int)).toNat)=((b.toNat:Nat):Int):=by rw [Ks,HU.out,Q4,hY,K4,hb]
    have hB:=h.base
    have ha:∀o,(wr.alloc o).cell? ⟨wb,0,none⟩=some u:=fun o=>Zd ((Below.refl _ _).alloc (Nat.le_refl _) o) hc hlt
    have hfa:∀o,(wr.alloc o).frozen? ⟨wb,0,none⟩=false:=fun o=>(((Below.refl _ _).alloc (Nat.le_refl _) o:Below wr.heap.size wr (wr.alloc o)).frozen (p:=⟨wb,0,none⟩) hlt).trans hf
    have HY:=qh hY
    have HB:=qh hb
    clear hY hb
    go_wp2_with fail
    go_region_law
     ((refine step_append_lies _ (by rfl) _ _ _ (by rfl) B 5 i0 _ 1 1 Tryz.underlying34 hi0 hz0 hz1 hz2 rfl (by omega) u (bs++pre).length (outs (bs++pre)) (by rfl) ((h.own.alloc _).drew) ⟨wr.heap.size,0,none⟩ 1 1 [.int .u8 b.toNat] (by rfl) (by rfl) (World.news_of_block (cs:= #[.int .u8 b.toNat]) (t:=5) (fr:=(0,0)) (heap_alloc_new wr _)) (by simp [Value.oneCell']) (by omega) (by rw [List.length_append];unfold maxLen;omega) (by rw [List.length_append];omega) (by simp;omega) (wr.heap.size+1) (by simp) ?_;intro gg cap w1 hown1 hgrow hat hlt1;have hc1:w1.cell? ⟨wb,0,none⟩=some u:=(hgrow.cell_far ⟨wb,0,none⟩ (by simp;omega) (Ne.symm hne)).trans (by simpa using ha _);have hf1:w1.frozen? ⟨wb,0,none⟩=false:=(hgrow.frozen_far ⟨wb,0,none⟩ (by simp;omega) (Ne.symm hne)).trans (by simpa using hfa _)))
    all_goals
     clear hc hf ha hfa hc1 hf1 hu8
     rw [Kw] at hown1
     have hP:=h.push (v':= .slice (some ⟨gg,0,none⟩) ((bs++pre).length+1) cap) (bs':=bs++pre++ [b]) (((Below.refl _ _).alloc (Nat.le_refl _) _).drew) hgrow (by simpa [Nat.add_assoc] using hown1) (by
      rcases hat with e|e
      .left;rw [e];rfl
      .right;intro k hk;have:gg=k:=by simpa [Value.ownBlock] using hk
       omega)
     rw [List.length_append] at hP
     have hQ:=hs.trans hP.2
     have hP:=hP.1
     clear hown1 hgrow hat hlt1 h hs
     go_wp2_with fail
     go_roundw
     case rel=>exact ⟨r,pre++ [b],_,by omega,rfl,by show _=_;rw [<-HP.out,List.append_assoc];simp only [be,HY.out,HB.out,List.singleton_append],by rw [<-List.append_assoc];exact hP,hQ⟩
     case measure=>first|(simp [intOf];done)|(simp [intOf];omega)
theorem zkz {P:Program} (w:World) (base:Nat) (t u ty e:TypeId) (i:TypeInfo) (ht:P.underlying t=some (.slice e)) (hu:P.underlying u=some .string) (hi:P.info? e=some i) (hz:i.zero=some (.int .u8 0))
 (hsize:i.size=1) (hby:i.bytes=1) (v:Value) (n:Nat) (xs:List Value) (hown:w.ownsRow base e 1 v n xs) (s:ByteArray)
 (h63:n+s.size<=maxLen) (hbytes:n+s.size<=140737488355328) (hbase:base<=w.heap.size):
 ∃ v' w',(Builtin.append_ #[t,u] ty #[v, .string s]).run P w= .ok v' w'/\w'.ownsRow base e 1 v' (n+s.size) (xs++Lib.strCells s)/\w.grownBy w' v.ownBlock/\
   (v'.ownBlock=v.ownBlock∨v'.ownBlock=some w.heap.size):=by
 obtain ⟨v',w',hr,h2,h3,h4⟩:=Lib.run_append_own_string (P:=P) w base t u ty e i ht hu hi hz hsize hby v n xs hown s h63 hbytes hbase
 refine ⟨v',w',hr,h2,h3, ?_⟩
 have hxl:xs.length=n:=by simpa using hown.1
 rcases hown.2 with ⟨rfl,rfl⟩|⟨g,cap,cur,rfl,hbg,hg,hnc,hcm,hcs,htake⟩
 .by_cases hm:s.size=0
  .rw [h4.2 ⟨rfl,hm⟩];exact .inl rfl
  .have hr2:=run_append_nil_string (P:=P) w t u ty e i (.int .u8 0) ht hu hi hz s (by omega) (by omega) (by rw [hby];omega)
   rw [hr] at hr2
   injection hr2 with hv _
   right;rw [hv];rfl
 .by_cases hroom:n+s.size<=cap
  .have hcs':cur.size=cap:=by simpa using hcs
   have hr2:=Lib.run_append_room_string (P:=P) w t u ty e i ht hu hi hsize g n cap cur hg s hroom (by omega)
   rw [hr] at hr2
   injection hr2 with hv _
   left;rw [hv];rfl
  .have hr2:=Lib.run_append_grow_string (P:=P) w t u ty e i (.int .u8 0) ht hu hi hz ⟨g,0,none⟩ n cap xs (by rw [hsize];simpa using hxl) (hown.cells (g:=g) rfl) s (by omega) (by simp only [maxLen] at h63;omega) (by rw [hby];exact growslice_fits (by omega) (by omega))
   rw [hr] at hr2
   injection hr2 with hv _
   right;rw [hv];rfl
theorem zbr {w:World} {base:Nat} {e:TypeId} {size:Nat} {v:Value} {n:Nat} {xs:List Value} (h:w.ownsRow base e size v n xs):∃ao c,v= .slice ao n c:=by
 rcases h.2 with ⟨rfl,rfl⟩|⟨g,cap,cur,rfl,_⟩
 .exact ⟨none,0,rfl⟩
 .exact ⟨_,cap,rfl⟩
theorem zkw {P:Program} (w:World) {ops:Array Oper} {rest:List Oper} {o:Oper} {a:Act} {Q:Exit->Act->World->Prop} (hgd:o.guard=none) (sl x:Operand) (t u:TypeId)
 (ho:o.op= .call { callee:= .builtin .append,args:= #[sl,x],argTypes:= #[t,u] })
 (base:Nat) (e:TypeId) (i:TypeInfo) (ht:P.underlying t=some (.slice e)) (hu:P.underlying u=some .string) (hi:P.info? e=some i) (hz:i.zero=some (.int .u8 0))
 (hsize:i.size=1) (hby:i.bytes=1)
 (v:Value) (n:Nat) (xs:List Value) (hs:a.eval sl=v) (hown:w.ownsRow base e 1 v n xs) (s:ByteArray) (hx:a.eval x= .string s)
 (h63:n+s.size<=maxLen) (hbytes:n+s.size<=140737488355328) (hbase:base<=w.heap.size)
 (h:∀v' w',w'.ownsRow base e 1 v' (n+s.size) (xs++Lib.strCells s)->w.grownBy w' v.ownBlock->(v'.ownBlock=v.ownBlock∨v'.ownBlock=some w.heap.size)->wpList P ops Q rest (a.put o.dst v') w'):wpList P ops Q (o::rest) a w:=by
 refine wpList_plain hgd fun K hK=> ?_
 obtain ⟨v',w',hr,h2,h3,h4⟩:=zkz (P:=P) w base t u o.type e i ht hu hi hz hsize hby v n xs hown s h63 hbytes hbase
 unfold Oper.wp execOp
 simp only [ho,resolve,invoke,builtin,Sem.run_bind,Sem.run_pure,Result.andThen_ok,List.map_toArray,List.map_cons,List.map_nil,hs,hx,hr]
 exact hK _ _ (h v' w' h2 h3 h4)
def encS (s:ByteArray):List UInt8:=be s.size 4++s.data.toList
theorem Z0 (s:ByteArray):(encS s).length=4+s.size:=by
 have h:s.data.toList.length=s.size:=Array.length_toList
 rw [encS,List.length_append,Zc,h]
theorem zbj (l:List UInt8) (s:ByteArray):outs l++Lib.strCells s=outs (l++s.data.toList):=by simp [outs,Lib.strCells]
theorem Js (n:Nat) (h:n<=140737488355328):((n:Int) % 18446744073709551616).toNat=n:=by omega
set_option maxRecDepth 100000 in
theorem Qj (s:ByteArray) (w:World) (B wb:Nat) (v:Value) (bs:List UInt8) (h:Wr w B wb v bs) (hsz:bs.length+(encS s).length<=140737488355328):
 Calls Tryz.prog 178 #[.pointer (some ⟨wb,0,none⟩), .string s] w fun e w'=>e= .returned (.tuple #[])/\∃v',Wr w' B wb v' (bs++encS s)/\WStep w w' wb v v':=by
 obtain ⟨i0,hi0,hz0,hz1,hz2⟩:=info_parts Yj
 rw [Z0] at hsz
 have hc:=X8 s.size 4 (by omega) w B wb v bs h (by omega)
 rw [Js _ (by omega)] at hc
 have HC:=qh hc
 have hb0:(be s.size 4).length=4:=Zc _ _
 clear hc
 go_enter Tryz.func178,Tryz.ntmps178
 go_wp2_with (first
  |(go_at_call 150;refine HC.out.mono ?_;rintro e w1 ⟨rfl,v1,h1,s1⟩;have hc1:=h1.cell;have hf1:=h1.frz;have hB:=h1.base;have hlt:=h1.lt;have hown1:w1.ownsRow B 5 1 v1 (bs.length+4) (outs (bs++be s.size 4)):=by have:=h1.own;rwa [List.length_append,hb0] at this)
  |(at_builtin;refine zkw _ rfl (.tmp 12) (.tmp 13) 34 9 (by rfl) B 5 i0 Tryz.underlying34 Tryz.underlying9 hi0 hz0 hz1 hz2 v1 (bs.length+4) (outs (bs++be s.size 4)) (by rfl) hown1 s (by rfl) (by unfold maxLen;omega) (by omega) (by omega) ?_;intro v2 w2 hown2 hgrow2 hat2;obtain ⟨ao,cc,rfl⟩:=zbr hown2;have hc2:w2.cell? ⟨wb,0,none⟩=some v1:=(hgrow2.cell_far ⟨wb,0,none⟩ hlt (Ne.symm h1.ne)).trans hc1;have hf2:w2.frozen? ⟨wb,0,none⟩=false:=(hgrow2.frozen_far ⟨wb,0,none⟩ hlt (Ne.symm h1.ne)).trans hf1))
 go_returns
 rw [zbj] at hown2
 have hl:(bs++be s.size 4++s.data.toList).length=bs.length+4+s.size:=by
  have h1:s.data.toList.length=s.size:=Array.length_toList
  rw [List.length_append,List.length_append,hb0,h1]
 have hP:=h1.push (v':= .slice ao (bs.length+4+s.size) cc) (bs':=bs++be s.size 4++s.data.toList) (Below.refl _ _) hgrow2 (by rw [hl];exact hown2) (by
  rcases hat2 with e|e
  .exact .inl e
  .right;intro k hk;rw [e] at hk;injection hk with hk;omega)
 exact ⟨rfl, .slice ao (bs.length+4+s.size) cc,by rw [encS, <-List.append_assoc];exact hP.1,s1.trans hP.2⟩
mutual
def encV:V->List UInt8
 | .mk k n s l o=>be (k % 18446744073709551616).toNat 1++(if k=1∨k=2 then be (n % 18446744073709551616).toNat 8 else if k=3 then encS s else if k=4 then be l.length 4++encL l else if k=5 then be o.length 4++encO o else [])
def encL:List V->List UInt8
 | [] => []
 |v::r=>encV v++encL r
def encO:List (ByteArray×V)->List UInt8
 | [] => []
 |f::r=>encF f++encO r
def encF:ByteArray×V->List UInt8
 |(k,v)=>encS k++encV v
end
theorem X6 (f:ByteArray×V):encF f=encS f.1++encV f.2:=by cases f;simp [encF]
theorem Jp (a b:List V):encL (a++b)=encL a++encL b:=by
 induction a with
 |nil=>simp [encL]
 |cons v r ih=>simp only [List.cons_append,encL,ih,List.append_assoc]
theorem zat (a b:List (ByteArray×V)):encO (a++b)=encO a++encO b:=by
 induction a with
 |nil=>simp [encO]
 |cons v r ih=>simp only [List.cons_append,encO,ih,List.append_assoc]
theorem zg4 (l:List V) (k:Nat) (h:k<l.length):encL (l.take (k+1))=encL (l.take k)++encV l[k] :=by
 rw [Zv l k h,Jp];simp [encL]
theorem zm9 (o:List (ByteArray×V)) (k:Nat) (h:k<o.length):encO (o.take (k+1))=encO (o.take k)++encS o[k].1++encV o[k].2:=by
 rw [Zv o k h,zat];simp [encO,X6]
theorem zj6 (l:List V) (k:Nat):(encL (l.take k)).length<=(encL l).length:=by
 have h:=Jp (l.take k) (l.drop k)
 rw [List.take_append_drop] at h;rw [h,List.length_append];omega
theorem zqz (l:List (ByteArray×V)) (k:Nat):(encO (l.take k)).length<=(encO l).length:=by
 have h:=zat (l.take k) (l.drop k)
 rw [List.take_append_drop] at h;rw [h,List.length_append];omega
structure WB (w wr:World) (B wb bx:Nat) (v u:Value) (bs:List UInt8) (c:VC):Prop where
 wrt:Wr wr B wb u bs
 st:WStep w wr wb v u
 at_:ValAt wr bx 0 c
 ne:bx≠wb
 lt:bx<wr.heap.size
 far:u.ownBlock≠some bx
theorem WB.next {w wr w2:World} {B wb bx:Nat} {v u u2:Value} {bs bs2:List UInt8} {c:VC} (h:WB w wr B wb bx v u bs c) (hr:Wr w2 B wb u2 bs2) (hs:WStep wr w2 wb u u2):WB w w2 B wb bx v u2 bs2 c:=by
 refine ⟨hr,h.st.trans hs,⟨hs.far h.at_.c0 h.ne h.far,hs.far h.at_.c1 h.ne h.far,hs.far h.at_.c2 h.ne h.far,hs.far h.at_.c3 h.ne h.far,hs.far h.at_.c4 h.ne h.far⟩,h.ne,Nat.lt_of_lt_of_le h.lt hs.size, ?_⟩
 rcases hs.own with e|e
 .rw [e];exact h.far
 .intro e2;have:=e _ e2;have:=h.lt;omega
theorem WB.behind {w wr w2:World} {B wb bx:Nat} {v u:Value} {bs:List UInt8} {c:VC} (h:WB w wr B wb bx v u bs c) (hb:Below wr.heap.size wr w2):WB w w2 B wb bx v u bs c:=
 h.next (h.wrt.of_below hb) (.of_below wb u hb)
theorem WB.start {w:World} {B wb:Nat} {v:Value} {bs:List UInt8} (h:Wr w B wb v bs) (c:VC) (t:TypeId):WB w (w.alloc (.cells #[.int .u8 c.k, .int .i64 c.n, .string c.s, .slice c.la c.ll c.lc, .slice c.oa c.ol c.oc] t)) B wb w.heap.size v v bs c:=by
 have hb:Below w.heap.size w (w.alloc (.cells #[.int .u8 c.k, .int .i64 c.n, .string c.s, .slice c.la c.ll c.lc, .slice c.oa c.ol c.oc] t)):=(Below.refl _ _).alloc (Nat.le_refl _) _
 exact ⟨h.of_below hb, .of_below wb v hb,Yi w c t,fun e=>by have:=h.lt;omega,by simp,fun e=>by have:=(h.lo _ e).2;omega⟩
def valueWP (x:V):Prop:=∀(w:World) (B wb:Nat) (v:Value) (bs:List UInt8) (c:VC),Wr w B wb v bs->IsVal w B x c->bs.length+(encV x).length<=140737488355328->
    Calls Tryz.prog 149 #[.pointer (some ⟨wb,0,none⟩), .agg #[.int .u8 c.k, .int .i64 c.n, .string c.s, .slice c.la c.ll c.lc, .slice c.oa c.ol c.oc]] w fun e w'=>e= .returned (.tuple #[])/\∃v',Wr w' B wb v' (bs++encV x)/\WStep w w' wb v v'
set_option maxRecDepth 100000 in
theorem zjg (x:V):valueWP x:=by
 induction x using V.ind with
 |h k n s l o ihl iho=>
 have IHL:=qh ihl;have IHO:=qh iho;clear ihl iho
 intro w B wb v bs c h hx hsz
 obtain ⟨rfl,rfl,rfl,cbd,hl,ho⟩:=hx.lists
 have HL:=qh hl;have HO:=qh ho;have H0:=qh h
 have c1:=cbd.l1;have c2:=cbd.l2;have c3:=cbd.o1;have c4:=cbd.o2;have c5:=cbd.s1;have c6:=cbd.l3;have c7:=cbd.o3;have k0:=cbd.k0;have k1:=cbd.k1;have n0:=cbd.n0;have n1:=cbd.n1
 have el:=hl.len;have eo:=ho.len
 have wx:=WB.start h c 41
 have hB:=h.base;have hlt:=h.lt
 clear hl ho hx cbd h
 by_cases e12:c.k=1∨c.k=2
 .have he:encV (.mk c.k c.n c.s l o)=be (c.k % 18446744073709551616).toNat 1++be (c.n % 18446744073709551616).toNat 8:=by rw [encV,if_pos e12]
  rw [he,List.length_append,Zc,Zc] at hsz
  rw [he]
  clear he el eo
  rcases e12 with e1|e1
  .have f1:(c.k==1)=true:=by simp [e1]
   clear e1
   go_enter Tryz.func149,Tryz.ntmps149
   go_wp2_with (first|(go_at_call 147;refine (Xx c.k 1 (by omega) _ B wb _ _ wx.wrt ?_).mono ?_;(focus (omega));rintro e w2 ⟨rfl,v2,hr2,hs2⟩;replace wx:=wx.next hr2 hs2;have y0:=wx.at_.c0;have y1:=wx.at_.c1;have y2:=wx.at_.c2;have y3:=wx.at_.c3;have y4:=wx.at_.c4)|(go_at_call 177;refine (zal c.n 8 (by omega) _ B wb _ _ wx.wrt ?_).mono ?_;(focus (rw [List.length_append,Zc];omega));rintro e w2 ⟨rfl,v2,hr2,hs2⟩;replace wx:=wx.next hr2 hs2;have y0:=wx.at_.c0;have y1:=wx.at_.c1;have y2:=wx.at_.c2;have y3:=wx.at_.c3;have y4:=wx.at_.c4))
   go_returns
   exact ⟨rfl,_,by rw [<-List.append_assoc];exact wx.wrt,wx.st⟩
  .have f1:(c.k==1)=false:=by simp [e1]
   have f2:(c.k==2)=true:=by simp [e1]
   clear e1
   go_enter Tryz.func149,Tryz.ntmps149
   go_wp2_with (first|(go_at_call 147;refine (Xx c.k 1 (by omega) _ B wb _ _ wx.wrt ?_).mono ?_;(focus (omega));rintro e w2 ⟨rfl,v2,hr2,hs2⟩;replace wx:=wx.next hr2 hs2;have y0:=wx.at_.c0;have y1:=wx.at_.c1;have y2:=wx.at_.c2;have y3:=wx.at_.c3;have y4:=wx.at_.c4)|(go_at_call 177;refine (zal c.n 8 (by omega) _ B wb _ _ wx.wrt ?_).mono ?_;(focus (rw [List.length_append,Zc];omega));rintro e w2 ⟨rfl,v2,hr2,hs2⟩;replace wx:=wx.next hr2 hs2;have y0:=wx.at_.c0;have y1:=wx.at_.c1;have y2:=wx.at_.c2;have y3:=wx.at_.c3;have y4:=wx.at_.c4))
   go_returns
   exact ⟨rfl,_,by rw [<-List.append_assoc];exact wx.wrt,wx.st⟩
 have e1:¬c.k=1:=fun e=>e12 (.inl e)
 have e2:¬c.k=2:=fun e=>e12 (.inr e)
 have f1:(c.k==1)=false:=by simp [e1]
 have f2:(c.k==2)=false:=by simp [e2]
 clear e1 e2
 by_cases e3:c.k=3
 .have he:encV (.mk c.k c.n c.s l o)=be (c.k % 18446744073709551616).toNat 1++encS c.s:=by rw [encV,if_neg e12,if_pos e3]
  rw [he,List.length_append,Zc] at hsz
  rw [he]
  have f3:(c.k==3)=true:=by simp [e3]
  clear he el eo e3 e12
  go_enter Tryz.func149,Tryz.ntmps149
  go_wp2_with (first|(go_at_call 147;refine (Xx c.k 1 (by omega) _ B wb _ _ wx.wrt ?_).mono ?_;(focus (omega));rintro e w2 ⟨rfl,v2,hr2,hs2⟩;replace wx:=wx.next hr2 hs2;have y0:=wx.at_.c0;have y1:=wx.at_.c1;have y2:=wx.at_.c2;have y3:=wx.at_.c3;have y4:=wx.at_.c4)|(go_at_call 178;refine (Qj c.s _ B wb _ _ wx.wrt ?_).mono ?_;(focus (rw [List.length_append,Zc];omega));rintro e w2 ⟨rfl,v2,hr2,hs2⟩;replace wx:=wx.next hr2 hs2;have y0:=wx.at_.c0;have y1:=wx.at_.c1;have y2:=wx.at_.c2;have y3:=wx.at_.c3;have y4:=wx.at_.c4))
  go_returns
  exact ⟨rfl,_,by rw [<-List.append_assoc];exact wx.wrt,wx.st⟩
 have f3:(c.k==3)=false:=by simp [e3]
 by_cases e4:c.k=4
 .have he:encV (.mk c.k c.n c.s l o)=be (c.k % 18446744073709551616).toNat 1++(be l.length 4++encL l):=by rw [encV,if_neg e12,if_neg e3,if_pos e4]
  rw [he,List.length_append,List.length_append,Zc,Zc] at hsz
  rw [he]
  have f4:(c.k==4)=true:=by simp [e4]
  have ell:be ((c.ll:Int) % 18446744073709551616).toNat 4=be l.length 4:=by rw [Js _ (by omega),el]
  have ELL:=qh ell
  have EL:=qh el
  clear he el eo e3 e12 e4 ell
  obtain ⟨ck,cn,cs,la,ll,lc,oa,ol,oc⟩:=c
  dsimp only at*
  go_enter Tryz.func149,Tryz.ntmps149
  go_wp2_with (first|(go_at_call 147;refine (Xx ck 1 (by omega) _ B wb _ _ wx.wrt ?_).mono ?_;(focus (omega));rintro e w2 ⟨rfl,v2,hr2,hs2⟩;replace wx:=wx.next hr2 hs2;have y0:=wx.at_.c0;have y1:=wx.at_.c1;have y2:=wx.at_.c2;have y3:=wx.at_.c3;have y4:=wx.at_.c4)|(go_at_call 150;refine (X8 (ll:Int) 4 (by omega) _ B wb _ _ wx.wrt ?_).mono ?_;(focus (rw [List.length_append,Zc];omega));rintro e w2 ⟨rfl,v2,hr2,hs2⟩;replace wx:=wx.next hr2 hs2;have y0:=wx.at_.c0;have y1:=wx.at_.c1;have y2:=wx.at_.c2;have y3:=wx.at_.c3;have y4:=wx.at_.c4))
  obtain ⟨PRE,hPRE⟩:∃PRE,bs++be (ck % 18446744073709551616).toNat 1++be ((ll:Int) % 18446744073709551616).toNat 4=PRE:=⟨_,rfl⟩
  rw [hPRE] at wx
  have hPL:PRE.length+(encL l).length<=140737488355328:=by rw [<-hPRE,List.length_append,List.length_append,Zc,Zc];omega
  have hPE:PRE=bs++be (ck % 18446744073709551616).toNat 1++be l.length 4:=by rw [<-hPRE,ELL.out]
  have HPE:=qh hPE
  clear hr2 hs2 hPRE hPE y0 y1 y2 y3 y4
  go_loopw [37,5] (fun i _ wr=>∃(k:Nat) (u:Value),k<=ll/\i= .int .i64 k/\WB w wr B wb w.heap.size v u (PRE++encL (l.take k)) ⟨ck,cn,cs,la,ll,lc,oa,ol,oc⟩) (fun i _ _=>ll - (intOf i).toNat)
  case atStart=>exact ⟨0,v2,Nat.zero_le _,rfl,by simpa [encL] using wx⟩
  case round=>
   clear wx
   obtain ⟨k,u,hk,rfl,wx⟩:=hrel
   have y3:=wx.at_.c3
   by_cases hlt2:k<ll
   .obtain ⟨b,o',f,kl,rfl,hb,x1,xv⟩:=HL.out.get hlt2
    have hbW:=H0.out.keeps wx.st
    have x1:=x1.keep hbW hb
    have r0:=x1.c0;have r1:=x1.c1;have r2:=x1.c2;have r3:=x1.c3;have r4:=x1.c4
    have hle:=zj6 l (k+1)
    have ht:=zg4 l k kl
    have hlen:(PRE++encL (l.take k)).length+(encV l[k]).length<=140737488355328:=by
     rw [ht,List.length_append] at hle;rw [List.length_append];omega
    have HI:Hid (∀W,Below wr.heap.size wr W->Calls Tryz.prog 149 #[.pointer (some ⟨wb,0,none⟩), .agg #[.int .u8 f.k, .int .i64 f.n, .string f.s, .slice f.la f.ll f.lc, .slice f.oa f.ol f.oc]] W fun e w'=>e= .returned (.tuple #[])/\∃v',Wr w' B wb v' (PRE++encL (l.take (k+1)))/\WStep W w' wb u v'):=by
     intro W hW
     have hBw:B<=wr.heap.size:=Nat.le_trans hB (Nat.le_of_lt wx.wrt.lt)
     have:=IHL.out l[k] (List.getElem_mem kl) W B wb u _ f (wx.wrt.of_below hW) (xv.keep (hbW.trans (hW.mono hBw))) hlen
     rw [ht, <-List.append_assoc];exact this
    clear x1 xv hle ht hlen hbW
    go_wp2_with (go_at_call 149;refine (HI.out _ (by go_grown)).mono ?_;rintro e w2 ⟨rfl,v3,hr3,hs3⟩)
    go_roundw
    case rel=>exact ⟨k+1,v3,by omega,by go_num,(wx.behind (by go_grown)).next hr3 hs3⟩
    case measure=>simp [intOf];omega
   .go_wp2_with fail
    go_returns
    exact ⟨rfl,u,by rw [<-List.append_assoc, <-List.append_assoc, <-HPE.out];have:=wx.wrt;rwa [List.take_of_length_le (by have:=EL.out;omega)] at this,wx.st⟩
 have f4:(c.k==4)=false:=by simp [e4]
 by_cases e5:c.k=5
 .have he:encV (.mk c.k c.n c.s l o)=be (c.k % 18446744073709551616).toNat 1++(be o.length 4++encO o):=by rw [encV,if_neg e12,if_neg e3,if_neg e4,if_pos e5]
  rw [he,List.length_append,List.length_append,Zc,Zc] at hsz
  rw [he]
  have f5:(c.k==5)=true:=by simp [e5]
  have ell:be ((c.ol:Int) % 18446744073709551616).toNat 4=be o.length 4:=by rw [Js _ (by omega),eo]
  have ELL:=qh ell
  have EL:=qh eo
  clear he el eo e3 e12 e4 e5 ell
  obtain ⟨ck,cn,cs,la,ll,lc,oa,ol,oc⟩:=c
  dsimp only at*
  go_enter Tryz.func149,Tryz.ntmps149
  go_wp2_with (first|(go_at_call 147;refine (Xx ck 1 (by omega) _ B wb _ _ wx.wrt ?_).mono ?_;(focus (omega));rintro e w2 ⟨rfl,v2,hr2,hs2⟩;replace wx:=wx.next hr2 hs2;have y0:=wx.at_.c0;have y1:=wx.at_.c1;have y2:=wx.at_.c2;have y3:=wx.at_.c3;have y4:=wx.at_.c4)|(go_at_call 150;refine (X8 (ol:Int) 4 (by omega) _ B wb _ _ wx.wrt ?_).mono ?_;(focus (rw [List.length_append,Zc];omega));rintro e w2 ⟨rfl,v2,hr2,hs2⟩;replace wx:=wx.next hr2 hs2;have y0:=wx.at_.c0;have y1:=wx.at_.c1;have y2:=wx.at_.c2;have y3:=wx.at_.c3;have y4:=wx.at_.c4))
  obtain ⟨PRE,hPRE⟩:∃PRE,bs++be (ck % 18446744073709551616).toNat 1++be ((ol:Int) % 18446744073709551616).toNat 4=PRE:=⟨_,rfl⟩
  rw [hPRE] at wx
  have hPL:PRE.length+(encO o).length<=140737488355328:=by rw [<-hPRE,List.length_append,List.length_append,Zc,Zc];omega
  have hPE:PRE=bs++be (ck % 18446744073709551616).toNat 1++be o.length 4:=by rw [<-hPRE,ELL.out]
  have HPE:=qh hPE
  clear hr2 hs2 hPRE hPE y0 y1 y2 y3 y4
  go_loopw [55,7] (fun i _ wr=>∃(k:Nat) (u:Value),k<=ol/\i= .int .i64 k/\WB w wr B wb w.heap.size v u (PRE++encO (o.take k)) ⟨ck,cn,cs,la,ll,lc,oa,ol,oc⟩) (fun i _ _=>ol - (intOf i).toNat)
  case atStart=>exact ⟨0,v2,Nat.zero_le _,rfl,by simpa [encO] using wx⟩
  case round=>
   clear wx
   obtain ⟨k,u,hk,rfl,wx⟩:=hrel
   have y4:=wx.at_.c4
   by_cases hlt2:k<ol
   .obtain ⟨b,o',f,kl,rfl,hb,g1,gk,x1,xv⟩:=HO.out.get hlt2
    have hbW:=H0.out.keeps wx.st
    have hBw:B<=wr.heap.size:=Nat.le_trans hB (Nat.le_of_lt wx.wrt.lt)
    have x1:=x1.keep hbW hb
    have xv:=xv.keep hbW
    have g0:=Zd hbW g1 hb
    have r0:=x1.c0;have r1:wr.cell? ⟨b,o'+k*6+2,none⟩=_:=x1.c1;have r2:wr.cell? ⟨b,o'+k*6+3,none⟩=_:=x1.c2;have r3:wr.cell? ⟨b,o'+k*6+4,none⟩=_:=x1.c3;have r4:wr.cell? ⟨b,o'+k*6+5,none⟩=_:=x1.c4
    have hle:=zqz o (k+1)
    have ht:=zm9 o k kl
    have hlen1:(PRE++encO (o.take k)).length+(encS o[k].1).length<=140737488355328:=by
     rw [ht,List.length_append,List.length_append] at hle;rw [List.length_append];omega
    have hlen2:(PRE++encO (o.take k)++encS o[k].1).length+(encV o[k].2).length<=140737488355328:=by
     rw [ht,List.length_append,List.length_append] at hle;rw [List.length_append,List.length_append];omega
    have HT:=qh ht
    have hwz:wr.heap.size≠wb:=by have:=wx.wrt.lt;omega
    have hwo:u.ownBlock≠some wr.heap.size:=fun e=>by have:=(wx.wrt.lo _ e).2;omega
    clear hle ht g1
    go_wp2_with (first|(go_at_call 178;refine (Qj o[k].1 _ B wb _ _ (wx.wrt.of_below (by go_grown)) hlen1).mono ?_;rintro e w3 ⟨rfl,v3,hr3,hs3⟩;have hb3:Below B wr w3:=wx.wrt.keeps ((WStep.of_below wb u (by go_grown)).trans hs3);have q1:=hs3.far (b:=wr.heap.size) (o:=1) (Zk _ _ _ 1 _ rfl) hwz hwo;have q2:=hs3.far (b:=wr.heap.size) (o:=2) (Zk _ _ _ 2 _ rfl) hwz hwo;have q3:=hs3.far (b:=wr.heap.size) (o:=3) (Zk _ _ _ 3 _ rfl) hwz hwo;have q4:=hs3.far (b:=wr.heap.size) (o:=4) (Zk _ _ _ 4 _ rfl) hwz hwo;have q5:=hs3.far (b:=wr.heap.size) (o:=5) (Zk _ _ _ 5 _ rfl) hwz hwo)|(go_at_call 149;refine (IHO.out o[k] (List.getElem_mem kl) _ B wb v3 _ f hr3 (xv.keep hb3) hlen2).mono ?_;rintro e w4 ⟨rfl,v4,hr4,hs4⟩))
    go_roundw
    case rel=>exact ⟨k+1,v4,by omega,by go_num,by rw [HT.out, <-List.append_assoc, <-List.append_assoc];exact ((wx.behind (by go_grown)).next hr3 hs3).next hr4 hs4⟩
    case measure=>simp [intOf];omega
   .go_wp2_with fail
    go_returns
    exact ⟨rfl,u,by rw [<-List.append_assoc, <-List.append_assoc, <-HPE.out];have:=wx.wrt;rwa [List.take_of_length_le (by have:=EL.out;omega)] at this,wx.st⟩
 have f5:(c.k==5)=false:=by simp [e5]
 have he:encV (.mk c.k c.n c.s l o)=be (c.k % 18446744073709551616).toNat 1:=by rw [encV,if_neg e12,if_neg e3,if_neg e4,if_neg e5,List.append_nil]
 rw [he,Zc] at hsz
 rw [he]
 clear he el eo e3 e12 e4 e5
 go_enter Tryz.func149,Tryz.ntmps149
 go_wp2_with (go_at_call 147;refine (Xx c.k 1 (by omega) _ B wb _ _ wx.wrt ?_).mono ?_;(focus (omega));rintro e w2 ⟨rfl,v2,hr2,hs2⟩;replace wx:=wx.next hr2 hs2;have y0:=wx.at_.c0;have y1:=wx.at_.c1;have y2:=wx.at_.c2;have y3:=wx.at_.c3;have y4:=wx.at_.c4)
 go_returns
 exact ⟨rfl,_,wx.wrt,wx.st⟩
end Go.Proofs.YtfoahkbnheijcaaGreatDoor
