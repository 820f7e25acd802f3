/-
  Contracts of the functions that the law reaches: conciliatorref19.Decode: MsgEl.
-/
import Derived.Test.YthceefjafklcmaaGreatDoorMd49
namespace Go.Proofs.YthceefjafklcmaaGreatDoor
open Go.RowKit
set_option maxHeartbeats 16000000 in
set_option maxRecDepth 100000 in
theorem rd_mainC (w:World) (a:Option Addr) (n c:Nat) (bs:List UInt8) (h:IsB w w.heap.size a n c bs) (hT:Tabs w) (b0 b1:UInt8) (r:List UInt8) (hbs:bs=b0::b1::r) (hl:bs.length≤60000) (hr:b1.toNat≤r.length) (hc2:c=2):
    Calls Tryz.prog 6 #[.slice a n c] w (RDPost w bs):=by
  subst hc2
  have hlen:n=r.length+2:=by rw [h.len,hbs];simp
  obtain ⟨ab,ao,hp0,ha,hab,hc0⟩:=h.get (show 0<n by omega)
  subst ha
  obtain ⟨ab',ao',hp1,ha',hab',hc1⟩:=h.get (show 1<n by omega)
  obtain ⟨rfl,rfl⟩:ab=ab'∧ao=ao':=by injection ha' with g;injection g with g1 g2;exact ⟨g1,g2⟩
  have HBS:=Lib.hid hbs
  obtain ⟨y0,hy0⟩:∃y,b0.toNat=y:=⟨_,rfl⟩
  obtain ⟨L,hL⟩:∃y,b1.toNat=y:=⟨_,rfl⟩
  replace hc0:w.cell? ⟨ab,ao,none⟩=some (.int .u8 (y0:Int)):=by subst hbs;rw [←hy0];exact hc0
  replace hc1:w.cell? ⟨ab,ao+1,none⟩=some (.int .u8 (L:Int)):=by subst hbs;rw [←hL];exact hc1
  have hL256:L<256:=by rw [←hL];exact b1.toNat_lt
  have hy256:y0<256:=by rw [←hy0];exact b0.toNat_lt
  have hwL:wrap64 (L:Int)=L:=by unfold wrap64;omega
  have hwL2:IntKind.i64.wrap (L:Int)=L:=by rw [IntKind.wrap_i64];omega
  have hn2:¬60000<n:=by rw [h.len];omega
  have hLL:¬n - 2<L:=by omega
  have hLn:L+2≤n:=by omega
  have hi1:1<n:=by omega
  have hcc:=h.cap;have hcm:=h.max
  have hr0:r= [] :=by
    cases r with
    |nil=>rfl
    |cons x r=>simp at hlen;omega
  have HL0:Hid (L=0):=by show _=_;rw [←hL];rw [hr0] at hr;exact Nat.le_zero.1 hr
  have HNZ:Hid (n - 2=0):=Nat.sub_eq_zero_of_le hcc
  have HW3:Hid (wrap64 (2+(L:Int))=2+(L:Int)):=by show _=_;unfold wrap64;omega
  have HW4:Hid (IntKind.i64.wrap (2+(L:Int))=2+(L:Int)):=by show _=_;rw [IntKind.wrap_i64];omega
  have HLC:Hid (2+L≤2):=by show _≤_;rw [HL0.out];exact Nat.le_refl _
  have HLC':Hid (¬2<2+L):=by show ¬_;rw [HL0.out];exact Nat.lt_irrefl _
  have HSA:Hid (0≤2+(L:Int)∧2+(L:Int)≤(2:Int)):=by show _∧_;rw [HL0.out];decide
  have HSB:Hid (2≤max (2+(L:Int)) 0):=by show _≤_;omega
  have HSD:Hid ((2+(L:Int)).toNat - 2=L):=by show _=_;omega
  have H0N:Hid (0<n):=by show _<_;omega
  have HL2:Hid (¬2+L<2):=by show ¬_;omega
  obtain ⟨t,ht⟩:∃t,r.drop L=t:=⟨_,rfl⟩
  have htl:t.length≤60000:=by rw [←ht,List.length_drop];omega
  obtain ⟨doc,hdoc⟩:∃d,(⟨(r.take L).toArray⟩:ByteArray)=d:=⟨_,rfl⟩
  have HDS:Hid (doc.size≤140737488355328):=by
    show _≤_
    have h1:doc.size=(r.take L).length:=by rw [←hdoc];simp [ByteArray.size]
    rw [h1,List.length_take];omega
  have HC:Hid (∀W,Below w.heap.size w W→(W.cell? ⟨ab,ao,none⟩=some (.int .u8 (y0:Int))∧W.cell? ⟨ab,ao+1,none⟩=some (.int .u8 (L:Int))∧(convert 22 9 (.slice (some ⟨ab,ao,none⟩) L 0)).run Tryz.prog W= .ok (.string doc) W)):=fun W hW=>⟨keep_cell hW hc0 hab,keep_cell hW hc1 hab,by rw [←hdoc];exact conv_isB (IsB.keep (by rw [HL0.out,hr0,List.take_nil];exact (IsB.nil _ _).none_left rfl) hW)⟩
  have HRI:Hid (IsB w w.heap.size (some ⟨ab,ao,none⟩) 0 0 t):=by show IsB _ _ _ _ _ _;rw [←ht];exact (by rw [hr0,List.drop_nil];exact (IsB.nil _ _).none_left rfl)
  have HH1:Hid (numP 1 (bs,false)=(y0,(b1::r,false))):=by
    subst hbs;rw [←hy0];show _=_;simp [numP,cutP,num]
  have HH2:Hid (textP 1 (b1::r,false)=(doc,(t,false))):=by
    show _=_
    have e2:numP 1 (b1::r,false)=(b1.toNat,(r,false)):=by simp [numP,cutP,num]
    rw [textP,e2]
    dsimp only
    rw [cutP,if_neg (show ¬r.length<b1.toNat by omega),hL, ←ht, ←hdoc]
  have bz:BC (w.alloc (.cells #[.int .u8 0, .string { data:= #[] }, .int .i64 0, .int .u8 0, .int .u32 0, .int .u32 0, .int .u8 0, .int .i64 0, .string { data:= #[] }, .slice none 0 0, .slice none 0 0, .slice none 0 0, .int .u32 0, .int .u32 0, .int .u16 0, .bool false, .int .u8 0, .int .i64 0, .string { data:= #[] }, .slice none 0 0, .slice none 0 0, .slice none 0 0] 36)) w.heap.size (mcells mzero):=BC.start w #[.int .u8 0, .string { data:= #[] }, .int .i64 0, .int .u8 0, .int .u32 0, .int .u32 0, .int .u8 0, .int .i64 0, .string { data:= #[] }, .slice none 0 0, .slice none 0 0, .slice none 0 0, .int .u32 0, .int .u32 0, .int .u16 0, .bool false, .int .u8 0, .int .i64 0, .string { data:= #[] }, .slice none 0 0, .slice none 0 0, .slice none 0 0] 36
  have hbz:Below w.heap.size w (w.alloc (.cells #[.int .u8 0, .string { data:= #[] }, .int .i64 0, .int .u8 0, .int .u32 0, .int .u32 0, .int .u8 0, .int .i64 0, .string { data:= #[] }, .slice none 0 0, .slice none 0 0, .slice none 0 0, .int .u32 0, .int .u32 0, .int .u16 0, .bool false, .int .u8 0, .int .i64 0, .string { data:= #[] }, .slice none 0 0, .slice none 0 0, .slice none 0 0] 36)):=(Below.refl w.heap.size w).alloc (Nat.le_refl _) _
  have hsz:(w.alloc (.cells #[.int .u8 0, .string { data:= #[] }, .int .i64 0, .int .u8 0, .int .u32 0, .int .u32 0, .int .u8 0, .int .i64 0, .string { data:= #[] }, .slice none 0 0, .slice none 0 0, .slice none 0 0, .int .u32 0, .int .u32 0, .int .u16 0, .bool false, .int .u8 0, .int .i64 0, .string { data:= #[] }, .slice none 0 0, .slice none 0 0, .slice none 0 0] 36)).heap.size=w.heap.size+1:=by simp
  have HW:=Lib.hid hT
  have HLB:=Lib.hid hl
  clear h hl hr hlen hp0 hp1 ha' hy0 hL ht hdoc hT hbs
  go_enter Tryz.func6,Tryz.ntmps6
  generalize hQ0:bodyPost _ _ _=Q0
  have HQ:=Lib.hid hQ0
  clear hQ0
  go_wp2_with fail
  generalize World.alloc _ _=wb at bz hbz hsz ⊢
  have HFB:Hid (∀W,Below wb.heap.size wb.drew W→(W.cell? ⟨ab,ao,none⟩=some (.int .u8 (y0:Int))∧W.cell? ⟨ab,ao+1,none⟩=some (.int .u8 (L:Int))∧(convert 22 9 (.slice (some ⟨ab,ao,none⟩) L 0)).run Tryz.prog W= .ok (.string doc) W)):=fun W hW=>HC.out W ((hbz.drew).trans (hW.mono (by rw [hsz];exact Nat.le_succ _)))
  clear hc0 hc1
  have hw3:=HW3.out;have hw4:=HW4.out;have hLc:=HLC.out;have hLc':=HLC'.out;have hL2:=HL2.out;have h0n:=H0N.out
  refine wp_region_noPanic ?_
  refine wp_region_held_drew (S:=fun W=>(W.cell? ⟨ab,ao,none⟩=some (.int .u8 (y0:Int))∧W.cell? ⟨ab,ao+1,none⟩=some (.int .u8 (L:Int))∧(convert 22 9 (.slice (some ⟨ab,ao,none⟩) L 0)).run Tryz.prog W= .ok (.string doc) W)) (by kernel_rfl) (HFB.out _ (Below.refl _ _)) (fun hHeld=> ?_)
  refine wpAnyH_take (i:=0) (v:= ?_) rfl (by kernel_rfl) (by kernel_rfl) (by kernel_rfl) (fun _ _ _ h=>h) (Or.inl ⟨by rfl, ?_⟩) (by assumption) ?_
  rotate_left
  · intro w' hSw
    obtain ⟨s1,s2,s3⟩:=hSw
    go_simp
    all_goals first|(with_reducible rfl)|(rw [if_pos HSA.out,if_pos HSB.out,HSD.out])|(rw [if_pos HSB.out,HSD.out])
  refine wpAnyH_take (i:=1) (v:= ?_) rfl (by kernel_rfl) (by kernel_rfl) (by kernel_rfl) (fun _ _ _ h=>h) (Or.inl ⟨by rfl, ?_⟩) (by assumption) ?_
  rotate_left
  · intro w' hSw
    obtain ⟨s1,s2,s3⟩:=hSw
    go_simp
    all_goals first|(with_reducible rfl)|(rw [if_pos HSA.out,if_pos HSB.out,HSD.out])|(rw [if_pos HSB.out,HSD.out])
  refine wpAnyH_take (i:=2) (v:= ?_) rfl (by kernel_rfl) (by kernel_rfl) (by kernel_rfl) (fun _ _ _ h=>h) (Or.inl ⟨by rfl, ?_⟩) (by assumption) ?_
  rotate_left
  · intro w' hSw
    obtain ⟨s1,s2,s3⟩:=hSw
    go_simp
    all_goals first|(with_reducible rfl)|(rw [if_pos HSA.out,if_pos HSB.out,HSD.out])|(rw [if_pos HSB.out,HSD.out])
  refine wpAnyH_take (i:=3) (v:= ?_) rfl (by kernel_rfl) (by kernel_rfl) (by kernel_rfl) (fun _ _ _ h=>h) (Or.inl ⟨by rfl, ?_⟩) (by assumption) ?_
  rotate_left
  · intro w' hSw
    obtain ⟨s1,s2,s3⟩:=hSw
    go_simp
    all_goals first|(with_reducible rfl)|(rw [if_pos HSA.out,if_pos HSB.out,HSD.out])|(rw [if_pos HSB.out,HSD.out])
  refine wpAnyH_take (i:=4) (v:= ?_) rfl (by kernel_rfl) (by kernel_rfl) (by kernel_rfl) (fun _ _ _ h=>h) (Or.inl ⟨by rfl, ?_⟩) (by assumption) ?_
  rotate_left
  · intro w' hSw
    obtain ⟨s1,s2,s3⟩:=hSw
    go_simp
    all_goals first|(with_reducible rfl)|(rw [if_pos HSA.out,if_pos HSB.out,HSD.out])|(rw [if_pos HSB.out,HSD.out])
  refine wpAnyH_take (i:=5) (v:= ?_) rfl (by kernel_rfl) (by kernel_rfl) (by kernel_rfl) (fun _ _ _ h=>h) (Or.inl ⟨by rfl, ?_⟩) (by assumption) ?_
  rotate_left
  · intro w' hSw
    obtain ⟨s1,s2,s3⟩:=hSw
    go_simp
    all_goals first|(with_reducible rfl)|(rw [if_pos HSA.out,if_pos HSB.out,HSD.out])|(rw [if_pos HSB.out,HSD.out])
  refine wpAnyH_take (i:=6) (v:= ?_) rfl (by kernel_rfl) (by kernel_rfl) (by kernel_rfl) (fun _ _ _ h=>h) (Or.inl ⟨by rfl, ?_⟩) (by assumption) ?_
  rotate_left
  · intro w' hSw
    obtain ⟨s1,s2,s3⟩:=hSw
    go_simp
    all_goals first|(with_reducible rfl)|(rw [if_pos HSA.out,if_pos HSB.out,HSD.out])|(rw [if_pos HSB.out,HSD.out])
  refine wpAnyH_take (i:=7) (v:= ?_) rfl (by kernel_rfl) (by kernel_rfl) (by kernel_rfl) (fun _ _ _ h=>h) (Or.inl ⟨by rfl, ?_⟩) (by assumption) ?_
  rotate_left
  · intro w' hSw
    obtain ⟨s1,s2,s3⟩:=hSw
    go_simp
    all_goals first|(with_reducible rfl)|(rw [if_pos HSA.out,if_pos HSB.out,HSD.out])|(rw [if_pos HSB.out,HSD.out])
  refine wpAnyH_take (i:=8) (v:= ?_) rfl (by kernel_rfl) (by kernel_rfl) (by kernel_rfl) (fun _ _ _ h=>h) (Or.inl ⟨by rfl, ?_⟩) (by assumption) ?_
  rotate_left
  · intro w' hSw
    obtain ⟨s1,s2,s3⟩:=hSw
    go_simp
    all_goals first|(with_reducible rfl)|(rw [if_pos HSA.out,if_pos HSB.out,HSD.out])|(rw [if_pos HSB.out,HSD.out])
  refine wpAnyH_take (i:=9) (v:= ?_) rfl (by kernel_rfl) (by kernel_rfl) (by kernel_rfl) (fun _ _ _ h=>h) (Or.inl ⟨by rfl, ?_⟩) (by assumption) ?_
  rotate_left
  · intro w' hSw
    obtain ⟨s1,s2,s3⟩:=hSw
    go_simp
    all_goals first|(with_reducible rfl)|(rw [if_pos HSA.out,if_pos HSB.out,HSD.out])|(rw [if_pos HSB.out,HSD.out])
  refine wpAnyH_take (i:=10) (v:= ?_) rfl (by kernel_rfl) (by kernel_rfl) (by kernel_rfl) (fun _ _ _ h=>h) (Or.inl ⟨by rfl, ?_⟩) (by assumption) ?_
  rotate_left
  · intro w' hSw
    obtain ⟨s1,s2,s3⟩:=hSw
    go_simp
    all_goals first|(with_reducible rfl)|(rw [if_pos HSA.out,if_pos HSB.out,HSD.out])|(rw [if_pos HSB.out,HSD.out])
  refine wpAnyH_take (i:=11) (v:= ?_) rfl (by kernel_rfl) (by kernel_rfl) (by kernel_rfl) (fun _ _ _ h=>h) (Or.inl ⟨by rfl, ?_⟩) (by assumption) ?_
  rotate_left
  · intro w' hSw
    obtain ⟨s1,s2,s3⟩:=hSw
    go_simp
    all_goals first|(with_reducible rfl)|(rw [if_pos HSA.out,if_pos HSB.out,HSD.out])|(rw [if_pos HSB.out,HSD.out])
  refine wpAnyH_ready (rs:= [12]) (by kernel_rfl) (by simp) ?_
  refine AllReadyH.cons rfl (fun K hK=> ?_) AllReadyH.nil
  go_simp
  refine hK.out _ _ ?_ (fun hHeld2=> ?_)
  · exact HFB.out _ (below_drawA _ _)
  clear hK K hHeld
  have hnew:BC (wb.alloc (.cells #[.int .u8 0, .string { data:= #[] }, .int .i64 0, .int .u8 0, .int .u32 0, .int .u32 0, .int .u8 0, .int .i64 0, .string { data:= #[] }, .slice none 0 0, .slice none 0 0, .slice none 0 0, .int .u32 0, .int .u32 0, .int .u16 0, .bool false, .int .u8 0, .int .i64 0, .string { data:= #[] }, .slice none 0 0, .slice none 0 0, .slice none 0 0] 36)).drew (w.heap.size+1) (mcells mzero):=by rw [←hsz];exact bc_drewM (BC.start wb #[.int .u8 0, .string { data:= #[] }, .int .i64 0, .int .u8 0, .int .u32 0, .int .u32 0, .int .u8 0, .int .i64 0, .string { data:= #[] }, .slice none 0 0, .slice none 0 0, .slice none 0 0, .int .u32 0, .int .u32 0, .int .u16 0, .bool false, .int .u8 0, .int .i64 0, .string { data:= #[] }, .slice none 0 0, .slice none 0 0, .slice none 0 0] 36)
  have bz2:BC (wb.alloc (.cells #[.int .u8 0, .string { data:= #[] }, .int .i64 0, .int .u8 0, .int .u32 0, .int .u32 0, .int .u8 0, .int .i64 0, .string { data:= #[] }, .slice none 0 0, .slice none 0 0, .slice none 0 0, .int .u32 0, .int .u32 0, .int .u16 0, .bool false, .int .u8 0, .int .i64 0, .string { data:= #[] }, .slice none 0 0, .slice none 0 0, .slice none 0 0] 36)).drew w.heap.size (mcells mzero):=bc_drewM (bz.keep ((Below.refl _ _).alloc (Nat.le_refl _) _) bz.lt)
  have hbz2:Below w.heap.size w (wb.alloc (.cells #[.int .u8 0, .string { data:= #[] }, .int .i64 0, .int .u8 0, .int .u32 0, .int .u32 0, .int .u8 0, .int .i64 0, .string { data:= #[] }, .slice none 0 0, .slice none 0 0, .slice none 0 0, .int .u32 0, .int .u32 0, .int .u16 0, .bool false, .int .u8 0, .int .i64 0, .string { data:= #[] }, .slice none 0 0, .slice none 0 0, .slice none 0 0] 36)).drew:=(hbz.alloc (by rw [hsz];exact Nat.le_succ _) _).drew
  refine wpAnyH_ready (rs:= [13]) (by kernel_rfl) (by simp) ?_
  refine AllReadyH.cons rfl (fun K hK=> ?_) AllReadyH.nil
  refine step_storeM _ _ rfl (by rfl) ⟨w.heap.size+1,mcells mzero,mcells (mk0 (y0:Int) doc 0),rfl,rfl,hnew,rfl,rfl,rfl, ?_⟩
  intro W5 hM5 keepf st
  have hX5:=keepf _ _ (by omega) bz2
  have hB5:Below w.heap.size w W5:=hbz2.trans (st.low (by omega) (by have:=hbz2.size;omega))
  refine hK.out _ _ (HC.out _ hB5) (fun hHeld3=> ?_)
  clear hK K hHeld2 hnew bz bz2 hbz hbz2 keepf st hsz HFB
  refine wpAnyH_done (by kernel_rfl) ?_ _
  refine NoPanic.normal ?_
  dsimp only [Act.put]
  obtain ⟨hc0,hc1,hcv⟩:=hHeld3
  clear hw3 hw4 hLc hLc' hL2 h0n hcv
  have hnz:=HNZ.out;have hl0:=HL0.out
  have x0:W5.cell? ⟨w.heap.size+1,0,none⟩=some (.int .u8 (y0:Int)):=hM5.at_ 0 _ rfl
  have HI5:=HRI.out.keep hB5
  by_cases hnb:y0=2∨y0=6
  case pos=>
    have HHD:Hid (headP bs=((y0:Int),doc,0,(t,false))):=by
      show _=_
      have hf:numberedB (y0:Int)=false:=by rcases hnb with g|g<;>rw [g] <;>rfl
      simp only [headP,HH1.out,HH2.out,hf]
      rfl
    have hff:((y0:Int) !=2)=false∨((y0:Int) !=2)=true∧((y0:Int) !=6)=false:=by
      rcases hnb with g|g
      · exact .inl (by rw [g];rfl)
      · exact .inr ⟨by rw [g];rfl,by rw [g];rfl⟩
    clear hnb
    generalize W5=W6 at hM5 hX5 hB5 HI5 x0 hc0 hc1 ⊢
    have hM6:=hM5;have hX6:=hX5;have hB6:=hB5;have HI6:=HI5
    clear hM5 hX5 hB5 HI5
    rcases hff with f2|⟨f2,f6⟩
    all_goals
      have hkb:KB (y0:Int) doc 0:=⟨by omega,by omega,HDS.out,by omega,by omega⟩
      have HRD:Hid (rdMsg bs=tailRd (y0:Int) doc 0 (t,false)):=by show _=_;rw [rdMsg,HHD.out]
      have HFT0:=tailRd_fits (y0:Int) doc 0 (t,false) htl
      have hE:=ends_any W6 (HW.out.below hB6) (y0:Int) doc 0 hkb (some ⟨ab,ao,none⟩) 0 0 t (HI6.more hB6.size) htl
      obtain ⟨m,hm⟩:∃m,(tailRd (y0:Int) doc 0 (t,false)).1=m:=⟨_,rfl⟩
      obtain ⟨q,hq⟩:∃q,okTail (y0:Int) t=q:=⟨_,rfl⟩
      have HE:Hid (Calls Tryz.prog 15 #[.agg (mcells (mk0 (y0:Int) doc 0)).toArray, .slice (some ⟨ab,ao,none⟩) 0 0] W6 fun e w'=>(∃cm,e= .returned (.tuple #[.agg (mcells cm).toArray, .bool q])∧(q=true→IsMsg (only (fun b=>W6.heap.size≤b) w') w'.heap.size m cm))∧Below W6.heap.size W6 w'):=by
        show Calls _ _ _ _ _
        rw [←hq, ←hm];exact hE
      rw [hm] at HFT0
      have HFT:=Lib.hid HFT0
      have HCD:Hid (refDec bs=if q=true∧msgSound m=true then (m,0) else (Ms.none,190)):=by
        show _=_
        rw [refDec,if_neg (by have:=HLB.out;omega),HRD.out,HHD.out,hm,hq]
        simp only [true_and]
      obtain ⟨sd,hsd⟩:∃sd,msgSound m=sd:=⟨_,rfl⟩
      rw [hsd] at HCD
      have HSD2:=Lib.hid hsd
      have hz6:=hM6.lt
      clear hE hm hq hsd HFT0 hkb
      rcases bcT q (bcT sd trivial) with rfl|⟨rfl,(rfl|⟨rfl,_⟩)⟩
      case inl=>
        have HD:Hid (refDec bs=(Ms.none,190)):=by show _=_;rw [HCD.out,if_neg (by simp)]
        go_wp2_with (first
          |(refine wp_loadM rfl _ rfl ?_;refine ⟨w.heap.size+1,mcells (mk0 (y0:Int) doc 0),rfl,rfl,hM6, ?_⟩)
          |(go_at_call 15;(with_reducible refine HE.out.mono ?_);rintro e w7 ⟨⟨cm,rfl,hM⟩,hb7⟩;have hX7:=hX6.keep hb7 hX6.lt;have hB7:=hB6.on hb7 hB6.size)
          |(refine wp_storeM rfl _ _ rfl ?_;refine ⟨w7.heap.size,mcells mzero,mcells cm,rfl,rfl,BC.start w7 (mcells mzero).toArray 36,rfl,rfl,rfl, ?_⟩;intro W8 bm8 keepf8 st8;have b78:Below w7.heap.size w7 W8:=((Below.refl w7.heap.size w7).alloc (Nat.le_refl _) (.cells (mcells mzero).toArray 36)).trans (st8.below (by simp));have hX8:=hX7.keep b78 hX7.lt;have HB8:=Lib.hid (hB7.trans (b78.mono hB7.size));clear keepf8 st8)|(refine wp_storeM rfl _ _ rfl ?_;refine ⟨w.heap.size,mcells mzero,mcells mzero,rfl,rfl,hX8,rfl,rfl,rfl, ?_⟩;intro W9 bm9 keepf9 st9;have HBM:=Lib.hid bm9;have HST:=Lib.hid st9;clear bm9 keepf9 st9))
        rw [←HQ.out]
        exact ⟨rfl,_,results_refDec rfl rfl HBM.out,⟨⟨mzero,by rw [HD.out];rfl,by rw [HD.out];exact isMsg_none _ _⟩,(HB8.out).trans (HST.out.low (Nat.le_refl _) (HB8.out).size)⟩⟩
      case inr.inl=>
        have HD:Hid (refDec bs=(Ms.none,190)):=by show _=_;rw [HCD.out,if_neg (by simp)]
        go_wp2_with (first
          |(refine wp_loadM rfl _ rfl ?_;refine ⟨w.heap.size+1,mcells (mk0 (y0:Int) doc 0),rfl,rfl,hM6, ?_⟩)
          |(go_at_call 15;(with_reducible refine HE.out.mono ?_);rintro e w7 ⟨⟨cm,rfl,hM⟩,hb7⟩;have hX7:=hX6.keep hb7 hX6.lt;have hB7:=hB6.on hb7 hB6.size;have HM7:=Lib.hid (hM rfl);have HZ7:Hid (W6.heap.size≤w7.heap.size):=hb7.size;clear hM)
          |(refine wp_storeM rfl _ _ rfl ?_;refine ⟨w7.heap.size,mcells mzero,mcells cm,rfl,rfl,BC.start w7 (mcells mzero).toArray 36,rfl,rfl,rfl, ?_⟩;intro W8 bm8 keepf8 st8;have b78:Below w7.heap.size w7 W8:=((Below.refl w7.heap.size w7).alloc (Nat.le_refl _) (.cells (mcells mzero).toArray 36)).trans (st8.below (by simp));have hX8:=hX7.keep b78 hX7.lt;have HB8:=Lib.hid (hB7.trans (b78.mono hB7.size));have HM8:=Lib.hid ((HM7.out.sub (shows_only _ _ _)).later_ b78);have HK8:Hid (∀k,k<w7.heap.size→W8.heap[k]? =w7.heap[k]?):=(fun k hk=>b78.block k hk);have HZ8:Hid (w7.heap.size≤W8.heap.size):=b78.size;clear keepf8 st8)|(refine wp_loadG _ rfl rfl ?_;refine ⟨w7.heap.size,mcells cm,rfl,rfl,bm8, ?_⟩)
          |(go_at_call 16;refine (refMsgSound_any m W8 (HW.out.below HB8.out) cm HM8.out HFT.out.small).mono ?_;rw [HSD2.out];rintro e w10 ⟨rfl,hb10⟩;have hX10:=hX8.keep hb10 hX8.lt;have bm10:=bm8.keep hb10 bm8.lt;have HB10:=Lib.hid (HB8.out.trans (hb10.mono HB8.out.size));have HK10:Hid (∀k,k<W8.heap.size→w10.heap[k]? =W8.heap[k]?):=(fun k hk=>hb10.block k hk);have HZ10:Hid (W8.heap.size≤w10.heap.size):=hb10.size;clear hb10)|(refine wp_storeM rfl _ _ rfl ?_;refine ⟨w.heap.size,mcells mzero,mcells mzero,rfl,rfl,hX10,rfl,rfl,rfl, ?_⟩;intro W9 bm9 keepf9 st9;have HBM:=Lib.hid bm9;have HST:=Lib.hid st9;clear bm9 keepf9 st9))
        rw [←HQ.out]
        exact ⟨rfl,_,results_refDec rfl rfl HBM.out,⟨⟨mzero,by rw [HD.out];rfl,by rw [HD.out];exact isMsg_none _ _⟩,(HB10.out).trans (HST.out.low (Nat.le_refl _) (HB10.out).size)⟩⟩
      case inr.inr=>
        have HD:Hid (refDec bs=(m,0)):=by show _=_;rw [HCD.out,if_pos (by simp)]
        go_wp2_with (first
          |(refine wp_loadM rfl _ rfl ?_;refine ⟨w.heap.size+1,mcells (mk0 (y0:Int) doc 0),rfl,rfl,hM6, ?_⟩)
          |(go_at_call 15;(with_reducible refine HE.out.mono ?_);rintro e w7 ⟨⟨cm,rfl,hM⟩,hb7⟩;have hX7:=hX6.keep hb7 hX6.lt;have hB7:=hB6.on hb7 hB6.size;have HM7:=Lib.hid (hM rfl);have HZ7:Hid (W6.heap.size≤w7.heap.size):=hb7.size;clear hM)
          |(refine wp_storeM rfl _ _ rfl ?_;refine ⟨w7.heap.size,mcells mzero,mcells cm,rfl,rfl,BC.start w7 (mcells mzero).toArray 36,rfl,rfl,rfl, ?_⟩;intro W8 bm8 keepf8 st8;have b78:Below w7.heap.size w7 W8:=((Below.refl w7.heap.size w7).alloc (Nat.le_refl _) (.cells (mcells mzero).toArray 36)).trans (st8.below (by simp));have hX8:=hX7.keep b78 hX7.lt;have HB8:=Lib.hid (hB7.trans (b78.mono hB7.size));have HM8:=Lib.hid ((HM7.out.sub (shows_only _ _ _)).later_ b78);have HK8:Hid (∀k,k<w7.heap.size→W8.heap[k]? =w7.heap[k]?):=(fun k hk=>b78.block k hk);have HZ8:Hid (w7.heap.size≤W8.heap.size):=b78.size;clear keepf8 st8)|(refine wp_loadG _ rfl rfl ?_;refine ⟨w7.heap.size,mcells cm,rfl,rfl,bm8, ?_⟩)
          |(go_at_call 16;refine (refMsgSound_any m W8 (HW.out.below HB8.out) cm HM8.out HFT.out.small).mono ?_;rw [HSD2.out];rintro e w10 ⟨rfl,hb10⟩;have hX10:=hX8.keep hb10 hX8.lt;have bm10:=bm8.keep hb10 bm8.lt;have HB10:=Lib.hid (HB8.out.trans (hb10.mono HB8.out.size));have HK10:Hid (∀k,k<W8.heap.size→w10.heap[k]? =W8.heap[k]?):=(fun k hk=>hb10.block k hk);have HZ10:Hid (W8.heap.size≤w10.heap.size):=hb10.size;clear hb10)|(refine wp_loadM rfl _ rfl ?_;refine ⟨w7.heap.size,mcells cm,rfl,rfl,bm10, ?_⟩)|(refine wp_storeM rfl _ _ rfl ?_;refine ⟨w.heap.size,mcells mzero,mcells cm,rfl,rfl,hX10,rfl,rfl,rfl, ?_⟩;intro W9 bm9 keepf9 st9;have HBM:=Lib.hid bm9;have HST:=Lib.hid st9;clear bm9 keepf9 st9))
        rw [←HQ.out]
        have hz7:=HZ7.out
        have hz8:=HZ8.out
        have hz10:=HZ10.out
        have hz9:=HST.out.size
        have hIF:IsMsg W9 W9.heap.size m cm:=((HM7.out.sub (shows_step (S':=fun b=>W6.heap.size≤b) (fun k hk hl=>⟨hk,(HST.out.block k (by omega) (by omega)).trans ((HK10.out k (by omega)).trans (HK8.out k hl))⟩))).sub (shows_only _ _ _)).more (by omega)
        exact ⟨rfl,_,results_refDec rfl rfl HBM.out,⟨⟨cm,by rw [HD.out];rfl,by rw [HD.out];exact hIF⟩,(HB10.out).trans (HST.out.low (Nat.le_refl _) (HB10.out).size)⟩⟩
  case neg=>
    have k2:((y0:Int) !=2)=true:=by simp;omega
    have k6:((y0:Int) !=6)=true:=by simp;omega
    have hnT:numberedB (y0:Int)=true:=by simp [numberedB];omega
    have l4:=numP_lt4 (t,false)
    have l5:=numP_len 4 (t,false)
    obtain ⟨⟨NN,t4,sh⟩,h4⟩:∃p,numP 4 (t,false)=p:=⟨_,rfl⟩
    rw [h4] at l4 l5
    dsimp only at l4 l5
    have HH4:=Lib.hid h4
    have HNT:=Lib.hid hnT
    have hwn:wrap64 ((NN:Int) - 1)=(NN:Int) - 1:=by unfold wrap64;omega
    have hwn2:IntKind.i64.wrap ((NN:Int) - 1)=(NN:Int) - 1:=by rw [IntKind.wrap_i64];omega
    have hwn3:IntKind.i64.wrap (NN:Int)=(NN:Int):=by rw [IntKind.wrap_i64];omega
    have hwn4:wrap64 (NN:Int)=(NN:Int):=by unfold wrap64;omega
    cases sh with
    | true=>
      have HGC:=Lib.hid (GetC.of4 h4 rfl)
      have HD:Hid (refDec bs=(Ms.none,190)):=by
        show _=_
        rw [refDec,if_neg (by have:=HLB.out;omega),if_neg]
        have hh:(headP bs).2.2.2.2=true:=by
          simp only [headP,HH1.out,HH2.out,HNT.out,if_true,HH4.out]
        rw [hh];simp
      clear h4 hnT hnb
      go_wp2_with (first
        |(go_at_call 14;refine (HGC.out.at_ W5 _ _ _ w.heap.size hB5.size HI5).mono ?_;rintro e w6 ⟨⟨a6,n6,c6,rfl,hI6⟩,hb6⟩;have hX6:=hX5.keep hb6 hX5.lt;have HB6:=Lib.hid (hB5.trans (hb6.mono hB5.size)))
        |(refine wp_storeM rfl _ _ rfl ?_;refine ⟨w.heap.size,mcells mzero,mcells mzero,rfl,rfl,hX6,rfl,rfl,rfl, ?_⟩;intro W9 bm9 keepf9 st9;have HBM:=Lib.hid bm9;have HST:=Lib.hid st9;clear bm9 keepf9 st9))
      rw [←HQ.out]
      exact ⟨rfl,_,results_refDec rfl rfl HBM.out,⟨⟨mzero,by rw [HD.out];rfl,by rw [HD.out];exact isMsg_none _ _⟩,(HB6.out).trans (HST.out.low (Nat.le_refl _) (HB6.out).size)⟩⟩
    | false=>
      have HGC:=Lib.hid (GetC.of4 h4 rfl)
      have HHD:Hid (headP bs=((y0:Int),doc,(NN:Int) - 1,(t4,false))):=by
        show _=_
        simp only [headP,HH1.out,HH2.out,HNT.out,if_true,HH4.out]
      clear h4 hnT hnb
      go_upto_region 13 with (go_at_call 14;refine (HGC.out.at_ W5 _ _ _ w.heap.size hB5.size HI5).mono ?_;rintro e w6 ⟨⟨a6,n6,c6,rfl,hI6⟩,hb6⟩;have hM6':=hM5.keep hb6 hM5.lt;have hX6':=hX5.keep hb6 hX5.lt;have hB6':=hB5.trans (hb6.mono hB5.size);have x2:=hM6'.at_ 2 _ rfl;have g2:=hM6'.fr 2)
      have hM6:BC (w6.setCell ⟨w.heap.size+1,2,none⟩ (.int .i64 ((NN:Int) - 1))) (w.heap.size+1) (mcells (mk0 (y0:Int) doc ((NN:Int) - 1))):=hM6'.set (i:=2) (x:= .int .i64 ((NN:Int) - 1)) (by simp [mcells])
      have hX6:BC (w6.setCell ⟨w.heap.size+1,2,none⟩ (.int .i64 ((NN:Int) - 1))) w.heap.size (mcells mzero):=hX6'.far (by omega)
      have hB6:Below w.heap.size w (w6.setCell ⟨w.heap.size+1,2,none⟩ (.int .i64 ((NN:Int) - 1))):=hB6'.setCell (by simp) _
      have HI6:IsB (w6.setCell ⟨w.heap.size+1,2,none⟩ (.int .i64 ((NN:Int) - 1))) w.heap.size a6 n6 c6 t4:=hI6.keep ((Below.refl w.heap.size w6).setCell (by simp) _)
      clear hM6' hX6' hB6' hM5 hX5 hB5 HI5 x0 x2 g2 hc0 hc1 hI6 hb6
      generalize w6.setCell ⟨w.heap.size+1,2,none⟩ (.int .i64 ((NN:Int) - 1))=W6 at hM6 hX6 hB6 HI6 ⊢
      have htl4:t4.length≤60000:=by omega
      clear hwn hwn2 hwn3 hwn4 k2 k6 hwL hwL2 hl0 hnz l5
      have hkb:KB (y0:Int) doc ((NN:Int) - 1):=⟨by omega,by omega,HDS.out,by omega,by omega⟩
      have HRD:Hid (rdMsg bs=tailRd (y0:Int) doc ((NN:Int) - 1) (t4,false)):=by show _=_;rw [rdMsg,HHD.out]
      have HFT0:=tailRd_fits (y0:Int) doc ((NN:Int) - 1) (t4,false) htl4
      have hE:=ends_any W6 (HW.out.below hB6) (y0:Int) doc ((NN:Int) - 1) hkb a6 n6 c6 t4 (HI6.more hB6.size) htl4
      obtain ⟨m,hm⟩:∃m,(tailRd (y0:Int) doc ((NN:Int) - 1) (t4,false)).1=m:=⟨_,rfl⟩
      obtain ⟨q,hq⟩:∃q,okTail (y0:Int) t4=q:=⟨_,rfl⟩
      have HE:Hid (Calls Tryz.prog 15 #[.agg (mcells (mk0 (y0:Int) doc ((NN:Int) - 1))).toArray, .slice a6 n6 c6] W6 fun e w'=>(∃cm,e= .returned (.tuple #[.agg (mcells cm).toArray, .bool q])∧(q=true→IsMsg (only (fun b=>W6.heap.size≤b) w') w'.heap.size m cm))∧Below W6.heap.size W6 w'):=by
        show Calls _ _ _ _ _
        rw [←hq, ←hm];exact hE
      rw [hm] at HFT0
      have HFT:=Lib.hid HFT0
      have HCD:Hid (refDec bs=if q=true∧msgSound m=true then (m,0) else (Ms.none,190)):=by
        show _=_
        rw [refDec,if_neg (by have:=HLB.out;omega),HRD.out,HHD.out,hm,hq]
        simp only [true_and]
      obtain ⟨sd,hsd⟩:∃sd,msgSound m=sd:=⟨_,rfl⟩
      rw [hsd] at HCD
      have HSD2:=Lib.hid hsd
      have hz6:=hM6.lt
      clear hE hm hq hsd HFT0 hkb
      rcases bcT q (bcT sd trivial) with rfl|⟨rfl,(rfl|⟨rfl,_⟩)⟩
      case inl=>
        have HD:Hid (refDec bs=(Ms.none,190)):=by show _=_;rw [HCD.out,if_neg (by simp)]
        go_wp2_with (first
          |(refine wp_loadM rfl _ rfl ?_;refine ⟨w.heap.size+1,mcells (mk0 (y0:Int) doc ((NN:Int) - 1)),rfl,rfl,hM6, ?_⟩)
          |(go_at_call 15;(with_reducible refine HE.out.mono ?_);rintro e w7 ⟨⟨cm,rfl,hM⟩,hb7⟩;have hX7:=hX6.keep hb7 hX6.lt;have hB7:=hB6.on hb7 hB6.size)
          |(refine wp_storeM rfl _ _ rfl ?_;refine ⟨w7.heap.size,mcells mzero,mcells cm,rfl,rfl,BC.start w7 (mcells mzero).toArray 36,rfl,rfl,rfl, ?_⟩;intro W8 bm8 keepf8 st8;have b78:Below w7.heap.size w7 W8:=((Below.refl w7.heap.size w7).alloc (Nat.le_refl _) (.cells (mcells mzero).toArray 36)).trans (st8.below (by simp));have hX8:=hX7.keep b78 hX7.lt;have HB8:=Lib.hid (hB7.trans (b78.mono hB7.size));clear keepf8 st8)|(refine wp_storeM rfl _ _ rfl ?_;refine ⟨w.heap.size,mcells mzero,mcells mzero,rfl,rfl,hX8,rfl,rfl,rfl, ?_⟩;intro W9 bm9 keepf9 st9;have HBM:=Lib.hid bm9;have HST:=Lib.hid st9;clear bm9 keepf9 st9))
        rw [←HQ.out]
        exact ⟨rfl,_,results_refDec rfl rfl HBM.out,⟨⟨mzero,by rw [HD.out];rfl,by rw [HD.out];exact isMsg_none _ _⟩,(HB8.out).trans (HST.out.low (Nat.le_refl _) (HB8.out).size)⟩⟩
      case inr.inl=>
        have HD:Hid (refDec bs=(Ms.none,190)):=by show _=_;rw [HCD.out,if_neg (by simp)]
        go_wp2_with (first
          |(refine wp_loadM rfl _ rfl ?_;refine ⟨w.heap.size+1,mcells (mk0 (y0:Int) doc ((NN:Int) - 1)),rfl,rfl,hM6, ?_⟩)
          |(go_at_call 15;(with_reducible refine HE.out.mono ?_);rintro e w7 ⟨⟨cm,rfl,hM⟩,hb7⟩;have hX7:=hX6.keep hb7 hX6.lt;have hB7:=hB6.on hb7 hB6.size;have HM7:=Lib.hid (hM rfl);have HZ7:Hid (W6.heap.size≤w7.heap.size):=hb7.size;clear hM)
          |(refine wp_storeM rfl _ _ rfl ?_;refine ⟨w7.heap.size,mcells mzero,mcells cm,rfl,rfl,BC.start w7 (mcells mzero).toArray 36,rfl,rfl,rfl, ?_⟩;intro W8 bm8 keepf8 st8;have b78:Below w7.heap.size w7 W8:=((Below.refl w7.heap.size w7).alloc (Nat.le_refl _) (.cells (mcells mzero).toArray 36)).trans (st8.below (by simp));have hX8:=hX7.keep b78 hX7.lt;have HB8:=Lib.hid (hB7.trans (b78.mono hB7.size));have HM8:=Lib.hid ((HM7.out.sub (shows_only _ _ _)).later_ b78);have HK8:Hid (∀k,k<w7.heap.size→W8.heap[k]? =w7.heap[k]?):=(fun k hk=>b78.block k hk);have HZ8:Hid (w7.heap.size≤W8.heap.size):=b78.size;clear keepf8 st8)|(refine wp_loadG _ rfl rfl ?_;refine ⟨w7.heap.size,mcells cm,rfl,rfl,bm8, ?_⟩)
          |(go_at_call 16;refine (refMsgSound_any m W8 (HW.out.below HB8.out) cm HM8.out HFT.out.small).mono ?_;rw [HSD2.out];rintro e w10 ⟨rfl,hb10⟩;have hX10:=hX8.keep hb10 hX8.lt;have bm10:=bm8.keep hb10 bm8.lt;have HB10:=Lib.hid (HB8.out.trans (hb10.mono HB8.out.size));have HK10:Hid (∀k,k<W8.heap.size→w10.heap[k]? =W8.heap[k]?):=(fun k hk=>hb10.block k hk);have HZ10:Hid (W8.heap.size≤w10.heap.size):=hb10.size;clear hb10)|(refine wp_storeM rfl _ _ rfl ?_;refine ⟨w.heap.size,mcells mzero,mcells mzero,rfl,rfl,hX10,rfl,rfl,rfl, ?_⟩;intro W9 bm9 keepf9 st9;have HBM:=Lib.hid bm9;have HST:=Lib.hid st9;clear bm9 keepf9 st9))
        rw [←HQ.out]
        exact ⟨rfl,_,results_refDec rfl rfl HBM.out,⟨⟨mzero,by rw [HD.out];rfl,by rw [HD.out];exact isMsg_none _ _⟩,(HB10.out).trans (HST.out.low (Nat.le_refl _) (HB10.out).size)⟩⟩
      case inr.inr=>
        have HD:Hid (refDec bs=(m,0)):=by show _=_;rw [HCD.out,if_pos (by simp)]
        go_wp2_with (first
          |(refine wp_loadM rfl _ rfl ?_;refine ⟨w.heap.size+1,mcells (mk0 (y0:Int) doc ((NN:Int) - 1)),rfl,rfl,hM6, ?_⟩)
          |(go_at_call 15;(with_reducible refine HE.out.mono ?_);rintro e w7 ⟨⟨cm,rfl,hM⟩,hb7⟩;have hX7:=hX6.keep hb7 hX6.lt;have hB7:=hB6.on hb7 hB6.size;have HM7:=Lib.hid (hM rfl);have HZ7:Hid (W6.heap.size≤w7.heap.size):=hb7.size;clear hM)
          |(refine wp_storeM rfl _ _ rfl ?_;refine ⟨w7.heap.size,mcells mzero,mcells cm,rfl,rfl,BC.start w7 (mcells mzero).toArray 36,rfl,rfl,rfl, ?_⟩;intro W8 bm8 keepf8 st8;have b78:Below w7.heap.size w7 W8:=((Below.refl w7.heap.size w7).alloc (Nat.le_refl _) (.cells (mcells mzero).toArray 36)).trans (st8.below (by simp));have hX8:=hX7.keep b78 hX7.lt;have HB8:=Lib.hid (hB7.trans (b78.mono hB7.size));have HM8:=Lib.hid ((HM7.out.sub (shows_only _ _ _)).later_ b78);have HK8:Hid (∀k,k<w7.heap.size→W8.heap[k]? =w7.heap[k]?):=(fun k hk=>b78.block k hk);have HZ8:Hid (w7.heap.size≤W8.heap.size):=b78.size;clear keepf8 st8)|(refine wp_loadG _ rfl rfl ?_;refine ⟨w7.heap.size,mcells cm,rfl,rfl,bm8, ?_⟩)
          |(go_at_call 16;refine (refMsgSound_any m W8 (HW.out.below HB8.out) cm HM8.out HFT.out.small).mono ?_;rw [HSD2.out];rintro e w10 ⟨rfl,hb10⟩;have hX10:=hX8.keep hb10 hX8.lt;have bm10:=bm8.keep hb10 bm8.lt;have HB10:=Lib.hid (HB8.out.trans (hb10.mono HB8.out.size));have HK10:Hid (∀k,k<W8.heap.size→w10.heap[k]? =W8.heap[k]?):=(fun k hk=>hb10.block k hk);have HZ10:Hid (W8.heap.size≤w10.heap.size):=hb10.size;clear hb10)|(refine wp_loadM rfl _ rfl ?_;refine ⟨w7.heap.size,mcells cm,rfl,rfl,bm10, ?_⟩)|(refine wp_storeM rfl _ _ rfl ?_;refine ⟨w.heap.size,mcells mzero,mcells cm,rfl,rfl,hX10,rfl,rfl,rfl, ?_⟩;intro W9 bm9 keepf9 st9;have HBM:=Lib.hid bm9;have HST:=Lib.hid st9;clear bm9 keepf9 st9))
        rw [←HQ.out]
        have hz7:=HZ7.out
        have hz8:=HZ8.out
        have hz10:=HZ10.out
        have hz9:=HST.out.size
        have hIF:IsMsg W9 W9.heap.size m cm:=((HM7.out.sub (shows_step (S':=fun b=>W6.heap.size≤b) (fun k hk hl=>⟨hk,(HST.out.block k (by omega) (by omega)).trans ((HK10.out k (by omega)).trans (HK8.out k hl))⟩))).sub (shows_only _ _ _)).more (by omega)
        exact ⟨rfl,_,results_refDec rfl rfl HBM.out,⟨⟨cm,by rw [HD.out];rfl,by rw [HD.out];exact hIF⟩,(HB10.out).trans (HST.out.low (Nat.le_refl _) (HB10.out).size)⟩⟩
end Go.Proofs.YthceefjafklcmaaGreatDoor
