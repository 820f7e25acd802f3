/-
  Contracts of the functions that the law reaches: What is read is as long as it is written, and weighs no more. No program in sight. Entries: what is read is as long as it is written. No program in sight. whole: its deferred calls.
-/
import Derived.Test.YthceefjafklcmaaGreatDoorMd15
import Derived.Stop.Asserts
namespace Go.Proofs.YthceefjafklcmaaGreatDoor
open Go.RowKit
theorem rdN_len {k n:Nat} {bs r:List UInt8} (h:rdN k bs=some (n,r)):k+r.length=bs.length:=by
  obtain ⟨h1,_,rfl⟩:=rdN_some h
  rw [List.length_drop];omega
theorem rdM_len {k n:Nat} {bs r:List UInt8} (h:rdM k bs=some (n,r)):k+r.length=bs.length:=rdN_len (rdM_some h).1
theorem rdT_len {bs r:List UInt8} {s:ByteArray} (h:rdT bs=some (s,r)):(encS s).length+r.length=bs.length:=by
  obtain ⟨n,q,h1,rfl,rfl⟩:=rdT_some h
  have h2:=rdM_len h1
  have h3:=(rdM_some h1).2
  have h4:(⟨(q.take n).toArray⟩:ByteArray).size=(q.take n).length:=by simp [ByteArray.size]
  rw [encS_length,h4,List.length_take,List.length_drop]
  omega
theorem rdL_len {α:Type} {f:List UInt8→Option (α×List UInt8)} (enc:List α→List UInt8) (wt:List α→Nat) (he0:(enc []).length=0) (hw0:wt [] =0)
    (hs:∀xs x bs r,f bs=some (x,r)→wt xs≤(enc xs).length→(enc (xs++ [x])).length+r.length=(enc xs).length+bs.length∧wt (xs++ [x])≤(enc (xs++ [x])).length):
    ∀(n:Nat) (bs:List UInt8) (xs:List α) (r:List UInt8),rdL f n bs=some (xs,r)→(enc xs).length+r.length=bs.length∧wt xs≤(enc xs).length:=by
  intro n
  induction n with
  | zero=>
    intro bs xs r h
    rw [rdL] at h
    injection h with h;injection h with h1 h2;subst h1 h2
    exact ⟨by omega,by omega⟩
  | succ n ih=>
    intro bs xs r h
    rw [rdL] at h
    cases h1:rdL f n bs with
    |none=>rw [h1] at h;cases h
    | some p=>
      obtain ⟨ys,q⟩:=p
      rw [h1] at h
      simp only [Option.bind_some] at h
      cases h2:f q with
      |none=>rw [h2] at h;cases h
      | some t=>
        obtain ⟨x,q2⟩:=t
        rw [h2] at h
        simp only [Option.bind_some] at h
        injection h with h;injection h with h3 h4;subst h3 h4
        obtain ⟨a,b⟩:=ih bs ys q h1
        obtain ⟨c,d⟩:=hs ys x q q2 h2 b
        exact ⟨by omega,d⟩
theorem rdV_len (k:Nat):∀(bs:List UInt8) (v:V) (r:List UInt8),rdV k bs=some (v,r)→(encV v).length+r.length=bs.length∧v.weight≤(encV v).length:=by
  induction k with
  |zero=>intro bs v r h;cases h
  | succ k ih =>
    intro bs v r h
    rw [rdV] at h
    cases h1:rdN 1 bs with
    |none=>rw [h1] at h;cases h
    | some p =>
      obtain ⟨kd,q⟩:=p
      have hq:=rdN_len h1
      rw [h1] at h
      simp only [Option.bind_some] at h
      by_cases e12:kd=1∨kd=2
      · rw [if_pos e12] at h
        cases h2:rdN 8 q with
        |none=>rw [h2] at h;cases h
        | some p2=>
          obtain ⟨n,q2⟩:=p2
          have hq2:=rdN_len h2
          rw [h2] at h
          simp only [Option.bind_some] at h
          injection h with h;injection h with h3 h4;subst h3 h4
          have e12':(kd:Int)=1∨(kd:Int)=2:=by omega
          rw [encV,if_pos e12',List.length_append,be_length,be_length]
          simp only [V.weight,weightL,weightO,show ByteArray.empty.size=0 from rfl]
          omega
      · rw [if_neg e12] at h
        have e12':¬((kd:Int)=1∨(kd:Int)=2):=by omega
        by_cases e3:kd=3
        · rw [if_pos e3] at h
          cases h2:rdT q with
          |none=>rw [h2] at h;cases h
          | some p2=>
            obtain ⟨s,q2⟩:=p2
            have hq2:=rdT_len h2
            rw [h2] at h
            simp only [Option.bind_some] at h
            injection h with h;injection h with h3 h4;subst h3 h4
            have e3':(kd:Int)=3:=by omega
            rw [encV,if_neg e12',if_pos e3',List.length_append,be_length]
            rw [encS_length] at*
            simp only [V.weight,weightL,weightO]
            omega
        · rw [if_neg e3] at h
          have e3':¬(kd:Int)=3:=by omega
          by_cases e4:kd=4
          · rw [if_pos e4] at h
            have e4':(kd:Int)=4:=by omega
            cases h2:rdM 4 q with
            |none=>rw [h2] at h;cases h
            | some p2=>
              obtain ⟨n,q2⟩:=p2
              have hq2:=rdM_len h2
              rw [h2] at h
              simp only [Option.bind_some] at h
              cases h3:rdL (fun x=>rdV k x) n q2 with
              |none=>rw [h3] at h;cases h
              | some p3=>
                obtain ⟨l,q3⟩:=p3
                rw [h3] at h
                simp only [Option.bind_some] at h
                injection h with h;injection h with h4 h5;subst h4 h5
                obtain ⟨a,b⟩:=rdL_len (f:=fun x=>rdV k x) encL weightL rfl rfl (fun xs x bs r hx hw=>by
                  obtain ⟨c,d⟩:=ih bs x r hx
                  rw [encL_append,List.length_append,weightL_append]
                  simp only [encL,weightL,List.append_nil]
                  omega) n q2 l q3 h3
                rw [encV,if_neg e12',if_neg e3',if_pos e4',List.length_append,List.length_append,be_length,be_length]
                simp only [V.weight,weightO,show ByteArray.empty.size=0 from rfl]
                omega
          · rw [if_neg e4] at h
            have e4':¬(kd:Int)=4:=by omega
            by_cases e5:kd=5
            · rw [if_pos e5] at h
              have e5':(kd:Int)=5:=by omega
              cases h2:rdM 4 q with
              |none=>rw [h2] at h;cases h
              | some p2 =>
                obtain ⟨n,q2⟩:=p2
                have hq2:=rdM_len h2
                rw [h2] at h
                simp only [Option.bind_some] at h
                cases h3:rdL (fun x=>(rdT x).bind fun y=>(rdV k y.2).bind fun z=>some ((y.1,z.1),z.2)) n q2 with
                |none=>rw [h3] at h;cases h
                | some p3=>
                  obtain ⟨o,q3⟩:=p3
                  rw [h3] at h
                  simp only [Option.bind_some] at h
                  injection h with h;injection h with h4 h5;subst h4 h5
                  obtain ⟨a,b⟩:=rdL_len (f:=fun x=>(rdT x).bind fun y=>(rdV k y.2).bind fun z=>some ((y.1,z.1),z.2)) encO weightO rfl rfl (fun xs x bs r hx hw=>by
                    cases g1:rdT bs with
                    |none=>rw [g1] at hx;cases hx
                    | some t1=>
                      obtain ⟨s,r1⟩:=t1
                      rw [g1] at hx
                      simp only [Option.bind_some] at hx
                      cases g2:rdV k r1 with
                      |none=>rw [g2] at hx;cases hx
                      | some t2=>
                        obtain ⟨y,r2⟩:=t2
                        rw [g2] at hx
                        simp only [Option.bind_some] at hx
                        injection hx with hx;injection hx with hx1 hx2;subst hx1 hx2
                        obtain ⟨c,d⟩:=ih r1 y r2 g2
                        have e:=rdT_len g1
                        rw [encO_append,List.length_append,weightO_append]
                        simp only [encO,encF,weightO,weightF,List.append_nil,List.length_append]
                        rw [encS_length] at*
                        omega) n q2 o q3 h3
                  rw [encV,if_neg e12',if_neg e3',if_neg e4',if_pos e5',List.length_append,List.length_append,be_length,be_length]
                  simp only [V.weight,weightL,show ByteArray.empty.size=0 from rfl]
                  omega
            · rw [if_neg e5] at h
              have e5':¬(kd:Int)=5:=by omega
              injection h with h;injection h with h3 h4;subst h3 h4
              rw [encV,if_neg e12',if_neg e3',if_neg e4',if_neg e5',List.append_nil,be_length]
              simp only [V.weight,weightL,weightO,show ByteArray.empty.size=0 from rfl]
              omega
noncomputable def eqBs (a b:List UInt8):Bool:= @decide (a=b) (Classical.propDecidable _)
theorem bytes_inj {a b:List UInt8} :((⟨a.toArray⟩:ByteArray)=⟨b.toArray⟩)↔a=b:=by
  constructor
  · intro h
    have:=congrArg (fun x:ByteArray=>x.data.toList) h
    simpa using this
  · rintro rfl;rfl
theorem equal_any (w:World) (B B':Nat) (a a':Option Addr) (n n' c c':Nat) (bs bs':List UInt8) (h:IsB w B a n c bs) (h':IsB w B' a' n' c' bs'):
    Calls Tryz.prog 13 #[.slice a n c, .slice a' n' c'] w fun e w'=>e= .returned (.bool (eqBs bs bs'))∧w'=w:=by
  have k1:=conv_isB h
  have k2:=conv_isB h'
  clear h h'
  by_cases e:bs=bs'
  · have hE:eqBs bs bs'=true:=by simp [eqBs,e]
    rw [hE]
    subst e
    go_enter Tryz.func13,Tryz.ntmps13
    go_wp2_with fail
    go_returns
    exact ⟨by first|rfl|simp,rfl⟩
  · have hE:eqBs bs bs'=false:=by simp [eqBs,e]
    rw [hE]
    have HE:=Lib.hid e
    clear e
    go_enter Tryz.func13,Tryz.ntmps13
    go_wp2_with fail
    go_returns
    exact ⟨by simp;exact HE.out,rfl⟩
end Go.Proofs.YthceefjafklcmaaGreatDoor
namespace Go.Proofs.YthceefjafklcmaaGreatDoor
open Go.RowKit
theorem rdS_len {bs r:List UInt8} {s:St} (h:rdS bs=some (s,r)):(encSt s).length+r.length=bs.length:=by
  rw [rdS,Option.bind_eq_some_iff] at h
  obtain ⟨p,hp,h⟩:=h
  have h1:=rdN_len hp
  by_cases e:p.1=1
  · rw [if_pos e,Option.bind_eq_some_iff] at h
    obtain ⟨q,hq,h⟩:=h
    have h2:=rdN_len hq
    injection h with h;injection h with ha hb;subst ha hb
    rw [encSt,if_pos rfl,List.length_append,be_length,be_length]
    omega
  · rw [if_neg e,Option.bind_eq_some_iff] at h
    obtain ⟨q,hq,h⟩:=h
    have h2:=rdT_len hq
    injection h with h;injection h with ha hb;subst ha hb
    rw [encSt,if_neg (by simp),List.length_append,be_length]
    dsimp only
    omega
theorem rdI_len {bs r:List UInt8} {i:Int} (h:rdI bs=some (i,r)):(be (i % 18446744073709551616).toNat 8).length+r.length=bs.length:=by
  rw [rdI,Option.bind_eq_some_iff] at h
  obtain ⟨q,hq,h⟩:=h
  have h2:=rdN_len hq
  injection h with h;injection h with ha hb;subst hb
  rw [be_length];omega
theorem rdIf_len {α:Type} {b:Bool} {z x:α} {f:List UInt8→Option (α×List UInt8)} {bs r:List UInt8} (enc:α→List UInt8) (hf:∀bs x r,f bs=some (x,r)→(enc x).length+r.length=bs.length) (h:rdIf b z f bs=some (x,r)):
    (if b=true then enc x else []).length+r.length=bs.length:=by
  rw [rdIf] at h
  by_cases e:b=true
  · rw [if_pos e] at h;rw [if_pos e];exact hf _ _ _ h
  · rw [if_neg e] at h;rw [if_neg e]
    injection h with h;injection h with ha hb;subst hb
    simp
theorem rdIf_wt {b:Bool} {x:V} {bs r:List UInt8} (h:rdIf b V.none (rdV 18) bs=some (x,r)):x.weight≤bs.length+1:=by
  rw [rdIf] at h
  by_cases e:b=true
  · rw [if_pos e] at h
    have:=rdV_len 18 _ _ _ h
    omega
  · rw [if_neg e] at h
    injection h with h;injection h with ha hb;subst ha
    simp [V.none,V.weight,weightL,weightO]
theorem rdC_len {bs r:List UInt8} {c:Cm} (h:rdC bs=some (c,r)):(encC c).length+r.length=bs.length∧c.v.weight≤bs.length+1:=by
  rw [rdC] at h
  simp only [Option.bind_eq_some_iff] at h
  obtain ⟨p,hp,n,hn,q,hq,k,hk,i,hi,j,hj,m,hm,v,hv,s,hs,he⟩:=h
  have h1:=rdN_len hp
  have h2:=rdM_len hn
  have h3:=(rdL_len (f:=rdS) encP (fun _=>0) rfl rfl (fun xs x bs r hx _=>by
    have:=rdS_len hx
    rw [encP_append,List.length_append]
    simp only [encP,List.append_nil]
    omega) _ _ _ _ hq).1
  have h4:=rdIf_len encS (fun _ _ _ g=>rdT_len g) hk
  have h5:=rdIf_len (fun i:Int=>be (i % 18446744073709551616).toNat 8) (fun _ _ _ g=>rdI_len g) hi
  have h6:=rdIf_len (fun i:Int=>be (i % 18446744073709551616).toNat 8) (fun _ _ _ g=>rdI_len g) hj
  have h7:=rdIf_len (fun i:Int=>be (i % 18446744073709551616).toNat 8) (fun _ _ _ g=>rdI_len g) hm
  have h8:=rdIf_len encV (fun _ _ _ g=>(rdV_len 18 _ _ _ g).1) hv
  have h9:=rdIf_len encS (fun _ _ _ g=>rdT_len g) hs
  have h10:=rdIf_wt hv
  injection he with he;injection he with ha hb;subst ha hb
  refine ⟨?_,by dsimp only;omega⟩
  rw [encC,encT]
  simp only [List.length_append,be_length]
  omega
theorem rdCs_len {n:Nat} {bs r:List UInt8} {l:List Cm} (h:rdL rdC n bs=some (l,r)):(encCs l).length+r.length=bs.length∧∀x ∈ l,x.v.weight≤bs.length+1:=by
  induction n generalizing bs l r with
  | zero=>
    rw [rdL] at h
    injection h with h;injection h with ha hb;subst ha hb
    exact ⟨by simp [encCs],by simp⟩
  | succ n ih=>
    rw [rdL] at h
    simp only [Option.bind_eq_some_iff] at h
    obtain ⟨p,hp,q,hq,he⟩:=h
    obtain ⟨a,b⟩:=ih hp
    obtain ⟨c,d⟩:=rdC_len hq
    injection he with he;injection he with ha hb;subst ha hb
    refine ⟨?_,fun x hx=> ?_⟩
    · rw [encCs_append,List.length_append]
      simp only [encCs,List.append_nil]
      omega
    · rcases List.mem_append.mp hx with hx|hx
      · exact b x hx
      · rw [List.mem_singleton] at hx;subst hx;omega
theorem rdE_len {bs r:List UInt8} {e:En} (h:rdE bs=some (e,r)):(encE e).length+r.length=bs.length∧e.v.weight≤bs.length+1∧∀x ∈ e.op,x.v.weight≤bs.length+1:=by
  have hw:V.none.weight=1:=by simp [V.none,V.weight,weightL,weightO]
  rw [rdE] at h
  simp only [Option.bind_eq_some_iff] at h
  obtain ⟨p,hp,s,hs,q,hq,h⟩:=h
  have h1:=rdN_len hp
  have h2:=rdN_len hs
  have h3:=rdN_len hq
  by_cases e1:p.1=1
  · rw [if_pos e1,Option.bind_eq_some_iff] at h
    obtain ⟨v,hv,he⟩:=h
    have h4:=rdV_len 18 _ _ _ hv
    injection he with he;injection he with ha hb;subst ha hb
    refine ⟨?_,by dsimp only;omega,by simp⟩
    have e1':(p.1:Int)=1:=by omega
    simp only [encE,if_pos e1',List.length_append,be_length]
    omega
  · rw [if_neg e1] at h
    have e1':¬(p.1:Int)=1:=by omega
    by_cases e2:p.1=2
    · rw [if_pos e2,Option.bind_eq_some_iff] at h
      obtain ⟨n,hn,h⟩:=h
      rw [Option.bind_eq_some_iff] at h
      obtain ⟨l,hl,he⟩:=h
      have h4:=rdM_len hn
      obtain ⟨h5,h6⟩:=rdCs_len hl
      injection he with he;injection he with ha hb;subst ha hb
      have e2':(p.1:Int)=2:=by omega
      refine ⟨?_,by dsimp only;omega,fun x hx=>by have:=h6 x hx;omega⟩
      simp only [encE,if_neg e1',if_pos e2',List.length_append,be_length]
      omega
    · rw [if_neg e2] at h
      have e2':¬(p.1:Int)=2:=by omega
      injection h with he;injection he with ha hb;subst ha hb
      refine ⟨?_,by dsimp only;omega,by simp⟩
      simp only [encE,if_neg e1',if_neg e2',List.length_append,be_length,List.length_nil]
      omega
end Go.Proofs.YthceefjafklcmaaGreatDoor
namespace Go.Proofs.YthceefjafklcmaaGreatDoor
open Go.RowKit
theorem short_asserted (w:World):(Instr.typeAssert (.iface 121 (.agg #[])) 20 121 true).run Tryz.prog w= .ok (.tuple #[.agg #[], .bool true]) w:=by kernel_rfl
theorem short_not_nil (w:World):(binOp .eql 20 (.iface 121 (.agg #[])) .nilIface).run Tryz.prog w= .ok (.bool false) w:=by kernel_rfl
theorem catchV_idle (nb ob eb:Nat) (w:World):
    CallsD Tryz.prog 74 #[.pointer (some ⟨nb,0,none⟩), .pointer (some ⟨ob,0,none⟩), .pointer (some ⟨eb,0,none⟩)] .returning w fun e u' w'=>e= .returned (.tuple #[])∧u'= .returning∧w'=w:=by
  refine callsD_of_wpS Tryz.func74 rfl fun c₀ cs hu=> ?_
  apply wpS_seq
  apply wpS_region
  simp [wpOpsS,go_sem,recoverD,hu,Tryz.ntmps74,Exit.thenS]
  refine wpS_of_wp ?_
  go_wp2_with fail
  cases c₀
  simp_all [bodyPostS,results,Tryz.results74]
set_option maxHeartbeats 2000000 in
set_option maxRecDepth 100000 in
theorem catchV_short (nb ob eb:Nat) (w:World) (hn:BC w nb [.int .u8 0, .int .i64 0, .string { data:= #[] }, .slice none 0 0, .slice none 0 0]) (cs0:List Value) (ho:BC w ob cs0) (hl:cs0.length=5) (x0:Value) (he:BC w eb [x0]) (h2:ob≠eb) (h3:eb≠nb):
    CallsD Tryz.prog 74 #[.pointer (some ⟨nb,0,none⟩), .pointer (some ⟨ob,0,none⟩), .pointer (some ⟨eb,0,none⟩)] (.panicking [short]) w fun e u' w'=>e= .returned (.tuple #[])∧u'= .panicking [{ v:= .iface 121 (.agg #[]),recovered:=true }] ∧w'=(((((((w.setCell ⟨ob,0,none⟩ (.int .u8 0)).setCell ⟨ob,1,none⟩ (.int .i64 0)).setCell ⟨ob,2,none⟩ (.string { data:= #[] })).setCell ⟨ob,3,none⟩ (.slice none 0 0)).setCell ⟨ob,4,none⟩ (.slice none 0 0)).setCell ⟨eb,0,none⟩ (.int .u16 100)).alloc (.cells #[] 121)):=by
  refine callsD_of_wpS Tryz.func74 rfl fun c₀ cs hu=> ?_
  have hu3:c₀.mode= .panicking [{ v:= .iface 121 (.agg #[]),recovered:=false }] :=hu
  obtain ⟨ty,hty⟩:∃ty:TypeId,121=ty:=⟨_,rfl⟩
  obtain ⟨pv,hpv⟩:∃pv:Value, .agg #[] =pv:=⟨_,rfl⟩
  obtain ⟨older,hol⟩:∃older:List PanicEntry, [] =older:=⟨_,rfl⟩
  have hu2:c₀.mode= .panicking ({ v:= .iface ty pv,recovered:=false } ::older):=by rw [←hty, ←hpv, ←hol];exact hu3
  have n0:=hn.at_ 0 _ rfl
  have n1:=hn.at_ 1 _ rfl
  have n2:=hn.at_ 2 _ rfl
  have n3:=hn.at_ 3 _ rfl
  have n4:=hn.at_ 4 _ rfl
  have e0:=he.at_ 0 _ rfl
  have ef:=he.fr 0
  have o0:=ho.fr 0
  have o1:=ho.fr 1
  have o2:=ho.fr 2
  have o3:=ho.fr 3
  have o4:=ho.fr 4
  obtain ⟨z0,z1,z2,z3,z4,rfl⟩:∃z0 z1 z2 z3 z4,cs0= [z0,z1,z2,z3,z4] :=by
    match cs0,hl with
    | [z0,z1,z2,z3,z4],_=>exact ⟨z0,z1,z2,z3,z4,rfl⟩
  have q0:=ho.at_ 0 _ rfl
  have q1:=ho.at_ 1 _ rfl
  have q2:=ho.at_ 2 _ rfl
  have q3:=ho.at_ 3 _ rfl
  have q4:=ho.at_ 4 _ rfl
  have l1:=hn.lt
  have l2:=ho.lt
  have l3:=he.lt
  clear hn ho he hu hu3
  apply wpS_seq
  apply wpS_region
  simp [wpOpsS,go_sem,recoverD,hu2,Tryz.ntmps74,Exit.thenS]
  subst hty hpv hol
  have k1:=short_asserted
  have k2:=short_not_nil
  refine wpS_of_wp ?_
  go_wp2_with fail
  cases c₀
  simp_all [bodyPostS,results,Tryz.results74]
theorem catchE_idle (nb ob eb:Nat) (w:World):
    CallsD Tryz.prog 69 #[.pointer (some ⟨nb,0,none⟩), .pointer (some ⟨ob,0,none⟩), .pointer (some ⟨eb,0,none⟩)] .returning w fun e u' w'=>e= .returned (.tuple #[])∧u'= .returning∧w'=w:=by
  refine callsD_of_wpS Tryz.func69 rfl fun c₀ cs hu=> ?_
  apply wpS_seq
  apply wpS_region
  simp [wpOpsS,go_sem,recoverD,hu,Tryz.ntmps69,Exit.thenS]
  refine wpS_of_wp ?_
  go_wp2_with fail
  cases c₀
  simp_all [bodyPostS,results,Tryz.results69]
set_option maxHeartbeats 2000000 in
set_option maxRecDepth 100000 in
theorem catchE_short (nb ob eb:Nat) (w:World) (hn:BC w nb [.int .u8 0, .int .u32 0, .int .u32 0, .int .u8 0, .int .i64 0, .string { data:= #[] }, .slice none 0 0, .slice none 0 0, .slice none 0 0]) (cs0:List Value) (ho:BC w ob cs0) (hl:cs0.length=9) (x0:Value) (he:BC w eb [x0]) (h2:ob≠eb) (h3:eb≠nb):
    CallsD Tryz.prog 69 #[.pointer (some ⟨nb,0,none⟩), .pointer (some ⟨ob,0,none⟩), .pointer (some ⟨eb,0,none⟩)] (.panicking [short]) w fun e u' w'=>e= .returned (.tuple #[])∧u'= .panicking [{ v:= .iface 121 (.agg #[]),recovered:=true }] ∧w'=(((((((((((w.setCell ⟨ob,0,none⟩ (.int .u8 0)).setCell ⟨ob,1,none⟩ (.int .u32 0)).setCell ⟨ob,2,none⟩ (.int .u32 0)).setCell ⟨ob,3,none⟩ (.int .u8 0)).setCell ⟨ob,4,none⟩ (.int .i64 0)).setCell ⟨ob,5,none⟩ (.string { data:= #[] })).setCell ⟨ob,6,none⟩ (.slice none 0 0)).setCell ⟨ob,7,none⟩ (.slice none 0 0)).setCell ⟨ob,8,none⟩ (.slice none 0 0)).setCell ⟨eb,0,none⟩ (.int .u16 100)).alloc (.cells #[] 121)):=by
  refine callsD_of_wpS Tryz.func69 rfl fun c₀ cs hu=> ?_
  have hu3:c₀.mode= .panicking [{ v:= .iface 121 (.agg #[]),recovered:=false }] :=hu
  obtain ⟨ty,hty⟩:∃ty:TypeId,121=ty:=⟨_,rfl⟩
  obtain ⟨pv,hpv⟩:∃pv:Value, .agg #[] =pv:=⟨_,rfl⟩
  obtain ⟨older,hol⟩:∃older:List PanicEntry, [] =older:=⟨_,rfl⟩
  have hu2:c₀.mode= .panicking ({ v:= .iface ty pv,recovered:=false } ::older):=by rw [←hty, ←hpv, ←hol];exact hu3
  have n0:=hn.at_ 0 _ rfl
  have n1:=hn.at_ 1 _ rfl
  have n2:=hn.at_ 2 _ rfl
  have n3:=hn.at_ 3 _ rfl
  have n4:=hn.at_ 4 _ rfl
  have n5:=hn.at_ 5 _ rfl
  have n6:=hn.at_ 6 _ rfl
  have n7:=hn.at_ 7 _ rfl
  have n8:=hn.at_ 8 _ rfl
  have e0:=he.at_ 0 _ rfl
  have ef:=he.fr 0
  have o0:=ho.fr 0
  have o1:=ho.fr 1
  have o2:=ho.fr 2
  have o3:=ho.fr 3
  have o4:=ho.fr 4
  have o5:=ho.fr 5
  have o6:=ho.fr 6
  have o7:=ho.fr 7
  have o8:=ho.fr 8
  obtain ⟨z0,z1,z2,z3,z4,z5,z6,z7,z8,rfl⟩:∃z0 z1 z2 z3 z4 z5 z6 z7 z8,cs0= [z0,z1,z2,z3,z4,z5,z6,z7,z8] :=by
    match cs0,hl with
    | [z0,z1,z2,z3,z4,z5,z6,z7,z8],_=>exact ⟨z0,z1,z2,z3,z4,z5,z6,z7,z8,rfl⟩
  have q0:=ho.at_ 0 _ rfl
  have q1:=ho.at_ 1 _ rfl
  have q2:=ho.at_ 2 _ rfl
  have q3:=ho.at_ 3 _ rfl
  have q4:=ho.at_ 4 _ rfl
  have q5:=ho.at_ 5 _ rfl
  have q6:=ho.at_ 6 _ rfl
  have q7:=ho.at_ 7 _ rfl
  have q8:=ho.at_ 8 _ rfl
  have l1:=hn.lt
  have l2:=ho.lt
  have l3:=he.lt
  clear hn ho he hu hu3
  apply wpS_seq
  apply wpS_region
  simp [wpOpsS,go_sem,recoverD,hu2,Tryz.ntmps69,Exit.thenS]
  subst hty hpv hol
  have k1:=short_asserted
  have k2:=short_not_nil
  refine wpS_of_wp ?_
  go_wp2_with fail
  cases c₀
  simp_all [bodyPostS,results,Tryz.results69]
end Go.Proofs.YthceefjafklcmaaGreatDoor
