/- DeskNil answers true, of every setup whose rooms can be read, and every act. -/
import Derived.Test.YtkgaejjkmkfobaaGreatDoorMD
import Derived.Test.YtkgaejjkmkfobaaGreatDoorDesk3
namespace Go.Ev
open Go.Proofs Go.RowKit
set_option maxRecDepth 100000
set_option linter.unusedVariables false

noncomputable def oneExtentRun (r : Option (CEnd × CS)) : Bool :=
  match r with
  | some (.ret (.tuple ⟨[.pointer (some ⟨b, 0, none⟩), .int .i64 z]⟩), D) => eqInt z 0 && (match D.get b with
    | some (.cells (_ :: .int .i64 n :: .slice (some ⟨_, _, none⟩) l _ :: _) _ _) => eqInt n 4 && Nat.beq l 1
    | _ => false)
  | _ => false

theorem oneExtent_of_run {P : Program} [Clean P] {rec : Rec} (hrec : RecOk P rec) {f : FuncId} (h : oneExtentRun (rec f #[.int .i64 1, .int .i64 4] (memCS 0 [])) = true) (w : World) :
    Calls P f #[.int .i64 1, .int .i64 4] w fun e w' => (∃ g, e = .returned (.tuple #[.pointer (some ⟨g, 0, none⟩), .int .i64 0]) ∧ OneExtent w' g) ∧ Below w.heap.size w w' := by
  unfold oneExtentRun at h
  split at h
  · rename_i b z D hr
    simp only [Bool.and_eq_true] at h
    obtain ⟨hz, h⟩ := h
    have hz := eqInt_eq hz
    subst hz
    split at h
    · rename_i q n a o l cp rest es fz hD
      simp only [Bool.and_eq_true] at h
      have hn := eqInt_eq h.1
      have hl := Nat.eq_of_beq_eq_true h.2
      subst hn hl
      have hW : WRel (fun _ => none) (memCS 0 []) w := ⟨fun b i x h => (by cases h), fun b i h => (by cases h), fun b c i j h => (by cases h), fun _ _ _ => rfl⟩
      refine (hrec f _ _ _ D hr _ w #[.int .i64 1, .int .i64 4] hW (.cons (.int _ _) (.cons (.int _ _) .nil))).mono ?_
      rintro e w' ⟨β', hE, hR⟩
      have hB : Below w.heap.size w w' := ⟨hE.os, hE.tape, hE.out, hE.size, fun p hp => hE.frame p hp (fun b i h => (by cases h))⟩
      cases e with
      | returned v =>
        have hv : VRel β' (.tuple ⟨[.pointer (some ⟨b, 0, none⟩), .int .i64 0]⟩) v := hR
        cases hv with
        | tuple hs =>
          rename_i ys
          obtain ⟨ys⟩ := ys
          cases hs with
          | cons h1 hs =>
            cases hs with
            | cons h2 hs =>
              cases hs with
              | nil =>
                cases h2
                cases h1 with
                | ptr hb =>
                  rename_i i
                  obtain ⟨acs, el, lo, hi, g1, g2, g3, g4, g5, g6, g7⟩ := hE.rel.rel b i _ hb hD
                  refine ⟨⟨i.blk, rfl, ?_⟩, hB⟩
                  have cell : ∀ k v, acs.toList[k]? = some v → w'.cell? ⟨i.blk, k, none⟩ = some v := by
                    intro k v hv
                    simp only [World.cell?, g1]
                    simpa using hv
                  generalize hac : acs.toList.take _ = ac at g6
                  cases g6 with
                  | cons q1 r1 =>
                    cases r1 with
                    | cons q2 r2 =>
                      cases r2 with
                      | cons q3 r3 =>
                        cases q2
                        have e1 : acs.toList[1]? = some (.int .i64 4) := by
                          have := congrArg (fun l => l[1]?) hac
                          simp only [List.getElem?_take, List.length_cons] at this
                          rw [if_pos (by omega)] at this
                          exact this
                        cases q3 with
                        | slice hb' hl' hc' =>
                          rename_i i' cap'
                          have e2 : acs.toList[2]? = some (.slice (some ⟨i'.blk, o, none⟩) 1 cap') := by
                            have := congrArg (fun l => l[2]?) hac
                            simp only [List.getElem?_take, List.length_cons] at this
                            rw [if_pos (by omega)] at this
                            exact this
                          exact ⟨hE.rel.lt b i hb, cell 1 _ e1, _, _, cell 2 _ e2⟩
      | _ => exact hR.elim
    · cases h
  · cases h

theorem new_runs : oneExtentRun ((evKI Tryz.prog (flushI Tryz.prog fl) 10000).1 18 #[.int .i64 1, .int .i64 4] (memCS 0 [])) = true := by decide +kernel
theorem new_one (w : World) : Calls Tryz.prog 18 #[.int .i64 1, .int .i64 4] w fun e w' => (∃ g, e = .returned (.tuple #[.pointer (some ⟨g, 0, none⟩), .int .i64 0]) ∧ OneExtent w' g) ∧ Below w.heap.size w w' :=
  oneExtent_of_run (evKI_sound hmix fl_ok 10000).1 new_runs w

set_option maxHeartbeats 4000000 in
theorem deskNil_any {p s n : Int} {ad : Option Addr} {len cap : Nat} {k sn pl : Int} {bs : ByteArray} {pd : Option Addr} {plen pcap : Nat} {w : World} (h : Rooms w.heap.size w ad len) (hl : len ≤ cap) :
    Calls Tryz.prog 4 #[.agg #[.int .i64 p, .int .i64 s, .int .i64 n, .slice ad len cap], .agg #[.int .i64 k, .int .i64 sn, .int .i64 pl, .string bs, .slice pd plen pcap]] w fun e w' => e = .returned (.bool true) ∧ Below w.heap.size w w' := by
  have B0 := (Below.refl w.heap.size w).alloc (Nat.le_refl _) (.cells #[.int .i64 p, .int .i64 s, .int .i64 n, .slice ad len cap] 50)
  have s0 := SetupBox.new w p s n ad len cap 50
  have a0 := ActBox.new (w.alloc (.cells #[.int .i64 p, .int .i64 s, .int .i64 n, .slice ad len cap] 50)) k sn pl bs pd plen pcap 24
  have s1 := s0.below ((Below.refl _ _).alloc (Nat.le_refl _) (.cells #[.int .i64 k, .int .i64 sn, .int .i64 pl, .string bs, .slice pd plen pcap] 24))
  have B1 := B0.alloc (by simp) (.cells #[.int .i64 k, .int .i64 sn, .int .i64 pl, .string bs, .slice pd plen pcap] 24)
  have ez : (w.alloc (.cells #[.int .i64 p, .int .i64 s, .int .i64 n, .slice ad len cap] 50)).heap.size = w.heap.size + 1 := by simp
  rw [ez] at a0
  have z1 := B1.size
  go_enter Tryz.func4, Tryz.ntmps4
  go_wp2_with (first
    | (go_at_call 14; refine (D_true _).mono ?_; rintro e w1 ⟨rfl, b1⟩; have s2 := s1.below b1; have a2 := a0.below b1; have B2 := B1.trans (b1.mono z1); have z2 := B2.size; obtain ⟨x0, x1, x2, x3, x4⟩ := id s2; obtain ⟨y0, y1, y2, y3, y4, y5⟩ := id a2)
    | (go_at_call 15; refine (far18_any (h.below B2 (Nat.le_refl _)) z2).mono ?_; rintro e w2 ⟨⟨x, rfl, hx20⟩, b2⟩; have s3 := s2.below b2; have a3 := a2.below b2; have B3 := B2.trans (b2.mono z2); have z3 := B3.size; obtain ⟨x30, x31, x32, x33, x34⟩ := id s3; obtain ⟨y30, y31, y32, y33, y34, y35⟩ := id a3; cases x)
    | (go_at_call 7; refine (far_any _ _ _ _ _ _ _ _).mono ?_; rintro e w3 ⟨⟨x, rfl⟩, b3⟩; have s4 := s3.below b3; have a4 := a3.below b3; have B4 := B3.trans (b3.mono z3); have z4 := B4.size; obtain ⟨x40, x41, x42, x43, x44⟩ := id s4; obtain ⟨y40, y41, y42, y43, y44, y45⟩ := id a4; cases x)
    | (go_at_call 16; refine (deskDo_nil _ _ _ _ _ _ _ _).mono ?_; rintro e w4 ⟨rfl, b4⟩; have s5 := s4.below b4; have a5 := a4.below b4; have B5 := B4.trans (b4.mono z4); have z5 := B5.size; obtain ⟨x50, x51, x52, x53, x54⟩ := id s5; obtain ⟨y50, y51, y52, y53, y54, y55⟩ := id a5)
    | (go_at_call_of 17 (Value.pointer none); refine (deskOpen_err (c := 2) (by decide) (fun w' _ => vaultOpen_nil)).mono ?_; rintro e w5 ⟨rfl, b5⟩; have s6 := s5.below b5; have a6 := a5.below b5; have B6 := B5.trans (b5.mono z5); have z6 := B6.size; obtain ⟨x60, x61, x62, x63, x64⟩ := id s6; obtain ⟨y60, y61, y62, y63, y64, y65⟩ := id a6)
    | (go_at_call 18; refine (new_one _).mono ?_; rintro e w6 ⟨⟨g, rfl, hg⟩, b6⟩; have s7 := s6.below b6; have a7 := a6.below b6; have B7 := B6.trans (b6.mono z6); have z7 := B7.size; obtain ⟨x70, x71, x72, x73, x74⟩ := id s7; obtain ⟨y70, y71, y72, y73, y74, y75⟩ := id a7)
    | (go_at_call 17; refine (deskOpen_err (c := 1) (by decide) (fun w' hw' => vaultOpen_one (B := w.heap.size) (h.below (B7.trans (hw'.mono z7)) (Nat.le_refl _)) (Nat.le_trans z7 hw'.size) hl (by have h20 := hx20 (by simp); omega) (hg.below hw'))).mono ?_; rintro e w7 ⟨rfl, b7⟩; have s8 := s7.below b7; have a8 := a7.below b7; have B8 := B7.trans (b7.mono z7); have z8 := B8.size; obtain ⟨x80, x81, x82, x83, x84⟩ := id s8; obtain ⟨y80, y81, y82, y83, y84, y85⟩ := id a8)
    | (go_at_call 19; go_in) | (go_at_call 20; go_in) | (go_at_call 21; go_in) | (go_at_call 22; go_in) | (go_at_call 23; go_in) | (go_at_call 24; go_in) | (go_at_call 25; go_in) | (go_at_call 26; go_in))
  all_goals go_ret
  · exact ⟨rfl, B8⟩
  all_goals first | exact ⟨rfl, B4⟩ | exact ⟨rfl, B3⟩
end Go.Ev
