/- Written by a program of this repo: what the program's functions do, each as a Lean function, shown of the loaded code; or a statement's row over that; no condition of its own. -/
import Derived.Test.YtipeglbeongfmaaGreatPJournalSealsx11
namespace Go.Proofs.YtipeglbeongfmaaGreat.PJournalSeals
open Go Go.RowKit Go.Proofs.YtipeglbeongfmaaGreatV
set_option linter.unusedVariables false
set_option linter.unusedSimpArgs false
set_option maxHeartbeats 4000000
set_option maxRecDepth 100000

theorem journal_Format.ok (k : Nat) (a0 : Int)  (r1 : List ByteArray) (r2 : List S71) (r3 : Int) (r4 : Int) (r5 : Int) (r6 : List ByteArray) (r7 : List ByteArray) (r8 : Int) (h : journal_Format.f k a0 = some (r1, r2, r3, r4, r5, r6, r7, r8)) :
    VCalls Tryz.prog 31 [iv a0] [] (fun v G own => ∃ w0 w1 w5 w6 : Value, v = .tuple #[.agg #[w0, w1, iv r3, iv r4, iv r5, w5, w6], iv r8] ∧ G = [.row w0 1 (r1.map enc_str), .row w1 2 (r2.map enc71)] ∧ own = [(w5, 9, 1, r6.map enc_str), (w6, 9, 1, r7.map enc_str)]) := by
  refine VCalls.intro Tryz.func31 rfl (len rfl) fun E hC hW hD hU => ?_
  unfold journal_Format.f at h
  refine sr <| sG (o_alloc Z27 ZL27) fun g8814 => vs rfl <| ds <| sr <| vm rfl <| VL.letter (decide (a0 < 8)) fun b8821 hb8821 => va (op_cmp rfl rfl (congrArg some hb8821)) <| dt <| ?_
  replace h := iC h
  rcases h with ⟨c8822, h⟩ | ⟨c8822, h⟩
  · cases lT c8822 hb8821
    refine ct <| sr <| va (op_build (vals := []) (vcs := []) (cells := [sn, sn, iv 0, iv 0, iv 0, sn, sn]) SI27 rfl .nil (by kernel_rfl)) <| s1 (o_store 0 7 rfl rfl rfl TI27 (.agg (.of rfl)) rfl (len rfl)) <| vs rfl <| dt <|
     VC.ret <| VR.then <| ?_
    simp only [Option.some.injEq, Prod.mk.injEq] at h
    obtain ⟨rfl, rfl, rfl, rfl, rfl, rfl, rfl, rfl⟩ := h
    exact VR.nilFact' 1 <| VR.nilFact' 2 <| VR.nilRow' 9 1 <| VR.nilRow' 9 1 <| rf [.cell 2 27, .tmp 3] [1, 0] (.cell 0 rfl rfl TI27 (fun h => absurd h (by decide)) (.tmp rfl .nil)) ⟨sn, sn, sn, sn, rfl, rfl, rfl⟩
  cases lF c8822 hb8821
  refine cf <| sk <| sr <| vm rfl <| ?_
  replace h := bd h
  obtain ⟨⟨r8827, r8828, t8829⟩, hA8830, h⟩ := h
  dsimp only at h
  refine sC (o_call0 FO53 (disk_New.ok a0 r8827 r8828 t8829 hA8830) rfl rfl (ltn rfl) (All_of .nil)) <| ?_
  rintro _ _ _ ⟨v8832, v8834, rfl, rfl, rfl⟩
  refine vm rfl <| va (op_extract rfl rfl) <| va (op_extract rfl rfl) <| sG (o_alloc Z25 ZL25) fun g8835 => s1 (o_store 0 2 rfl rfl rfl TI25 (.agg (.r 0 rfl (.r 1 rfl .nil))) rfl (len rfl)) <| vs rfl <| ds <| sr <| vm rfl <|
   VL.letter ((t8829 != 0)) fun b8842 hb8842 => va (op_cmp rfl rfl (congrArg some hb8842)) <| dt <| ?_
  replace h := iC h
  rcases h with ⟨c8843, h⟩ | ⟨c8843, h⟩
  · obtain rfl : b8842 = false := hb8842.symm.trans (bne_eq_false_iff_eq.2 c8843)
    refine cf <| sk <| ?_
    replace h := bd h
    obtain ⟨r8844, hA8845, h⟩ := h
    replace h := bd h
    obtain ⟨t8846, hA8847, h⟩ := h
    replace h := bd h
    obtain ⟨⟨r8848, r8849, t8850⟩, hA8851, h⟩ := h
    dsimp only at h
    refine VC.freezeRow' 0 rfl <| VC.freezeRow' 0 rfl <|
     VC.join2 (fun (v8853 : Value) (v8855 : Value) => ⟨34, [(2, pt g8814 0), (3, iv 0), (4, pt g8835 0)], [.row v8853 1 (r8848.map enc_str), .row v8855 2 (r8849.map enc71)], [(g8835, 25, [v8853, v8855]), (g8814, 27, [sn, sn, iv 0, iv 0, iv 0, sn, sn])], []⟩) (fun (v8853 : Value) (v8855 : Value) => True) ?_ ?_
    · refine VC.drawB ⟨0, [], [], [], []⟩ [7] ⟨0, [], [], [(g8835, 25, [v8832, v8834])], []⟩ (by kernel_rfl) rfl (by kernel_rfl) (n := 8) (listed := LB 8 0) <|
       VB.vb (i := 0) (listed' := LB 8 1) rfl (op_load 0 2 rfl rfl TI25 rfl (fun h => absurd h (by decide))) rfl (by kernel_rfl) (by kernel_rfl) (by kernel_rfl) (by kernel_rfl) (by kernel_rfl) (by kernel_rfl) (PartP.on ⟨trivial, trivial, trivial⟩ ⟨trivial, ⟨⟨0, rfl⟩, trivial⟩, trivial⟩) (fun _ _ _ h => h) <|
       VB.oneC (i := 1) (listed' := LB 8 3) (by kernel_rfl) rfl (o_call0 FO55 (journal_headOf.ok k 1 0 0 r8844 hA8845) rfl rfl (ltn rfl) (All_of .nil)) rfl (by kernel_rfl) <| ?_
      rintro _ _ _ ⟨rfl, rfl, rfl⟩
      refine ⟨(PartP.on ⟨trivial, trivial, trivial⟩ ⟨trivial, ⟨⟨0, rfl⟩, trivial⟩, trivial⟩), ?_⟩
      refine VB.oneC (i := 2) (listed' := LB 8 7) (by kernel_rfl) rfl (o_call0 FO56 (journal_head_sector.ok r8844 t8846 hA8847) rfl rfl (ltn rfl) (All_of .nil)) rfl (by kernel_rfl) <| ?_
      rintro _ _ _ ⟨rfl, rfl, rfl⟩
      refine ⟨(PartP.on ⟨trivial, trivial, trivial⟩ ⟨trivial, ⟨⟨0, rfl⟩, trivial⟩, trivial⟩), ?_⟩
      refine VB.oneC (i := 3) (listed' := LB 8 15) (by kernel_rfl) rfl (o_call0 FO54 (disk_Put.ok k r8827 r8828 1 t8846 v8832 v8834 r8848 r8849 t8850 hA8851) rfl rfl (ltn rfl) (All_of (.cons (mG 1 rfl) (.cons (mG 0 rfl) .nil)))) rfl (by kernel_rfl) <| ?_
      rintro _ _ _ ⟨v8853, v8855, rfl, rfl, rfl⟩
      refine ⟨(PartP.on ⟨trivial, trivial, trivial⟩ ⟨trivial, ⟨⟨0, rfl⟩, trivial⟩, trivial⟩), ?_⟩
      exact VB.more ⟨0, [], [.row v8853 1 (r8848.map enc_str), .row v8855 2 (r8849.map enc71)], [], []⟩ ⟨trivial, trivial, trivial⟩ <| bv 4 31 rfl (mv rfl) <| bv 5 63 rfl (op_extract rfl rfl) <| bv 6 127 rfl (op_extract rfl rfl) <|
       VB.one1 (i := 7) (listed' := LB 8 255) (by kernel_rfl) rfl (o_store 0 2 rfl rfl rfl TI25 (.agg (.f 0 rfl (.f 1 rfl .nil))) rfl (len rfl)) rfl (by kernel_rfl) (PartP.off (by kernel_rfl) ⟨⟨⟨0, rfl⟩, ⟨1, rfl⟩, trivial⟩, trivial, trivial⟩) <| VB.done (by kernel_rfl) <|
       VN.meet2 v8853 v8855 [0, 1] [] trivial
    intro v8853 v8855 _
    refine sr <| va (op_load 0 2 rfl rfl TI25 rfl (fun h => absurd h (by decide))) <| ?_
    replace h := bd h
    obtain ⟨⟨r8856, r8857, t8858⟩, hA8859, h⟩ := h
    dsimp only at h
    refine sC (o_call0 FO52 (disk_Flush.ok k r8848 r8849 v8853 v8855 r8856 r8857 t8858 hA8859) rfl rfl (ltn rfl) (All_of (.cons (mG 0 rfl) (.cons (mG 1 rfl) .nil)))) <| ?_
    rintro _ _ _ ⟨v8861, v8863, rfl, rfl, rfl⟩
    refine vm rfl <| va (op_extract rfl rfl) <| va (op_extract rfl rfl) <| s1 (o_store 0 2 rfl rfl rfl TI25 (.agg (.r 0 rfl (.r 1 rfl .nil))) rfl (len rfl)) <| nx <| va (op_load 0 2 rfl rfl TI25 rfl (fun h => absurd h (by decide))) <| VL.freezeRow' 0 rfl <| VL.freezeRow' 0 rfl <| ?_
    replace h := bd h
    obtain ⟨⟨r8864, r8865, t8866, t8867, t8868, r8869, r8870, t8871⟩, hA8872, h⟩ := h
    dsimp only at h
    refine sC (o_call0 FO46 (journal_Open.ok k r8856 r8857 v8861 v8863 r8864 r8865 t8866 t8867 t8868 r8869 r8870 t8871 hA8872) rfl rfl (ltn rfl) (All_of (.cons (mG 1 rfl) (.cons (mG 0 rfl) .nil)))) <| ?_
    rintro _ _ _ ⟨v8874, v8876, v8878, v8880, rfl, rfl, rfl⟩
    refine va (op_extract rfl rfl) <| va (op_extract rfl rfl) <| s1 (o_store 1 7 rfl rfl rfl TI27 (.agg (.f 0 rfl (.f 1 rfl (.c rfl (.c rfl (.c rfl (.r 0 rfl (.r 1 rfl .nil)))))))) rfl (len rfl)) <| vs rfl <| dt <| VC.ret <| ?_
    simp only [Option.some.injEq, Prod.mk.injEq] at h
    obtain ⟨rfl, rfl, rfl, rfl, rfl, rfl, rfl, rfl⟩ := h
    exact rf [.cell 2 27, .tmp 3] [0, 1] (.cell 1 rfl rfl TI27 (fun h => absurd h (by decide)) (.tmp rfl .nil)) ⟨v8874, v8876, v8878, v8880, rfl, rfl, rfl⟩
  obtain rfl : b8842 = true := hb8842.symm.trans (bne_iff_ne.2 c8843)
  refine ct <| sr <| va (op_build (vals := []) (vcs := []) (cells := [sn, sn, iv 0, iv 0, iv 0, sn, sn]) SI27 rfl .nil (by kernel_rfl)) <| vm rfl <| s1 (o_store 1 7 rfl rfl rfl TI27 (.agg (.of rfl)) rfl (len rfl)) <| vs rfl <|
   dt <| VC.ret <| VR.then <| ?_
  simp only [Option.some.injEq, Prod.mk.injEq] at h
  obtain ⟨rfl, rfl, rfl, rfl, rfl, rfl, rfl, rfl⟩ := h
  exact VR.nilFact' 1 <| VR.nilFact' 2 <| VR.nilRow' 9 1 <| VR.nilRow' 9 1 <| rf [.cell 2 27, .tmp 3] [1, 0] (.cell 1 rfl rfl TI27 (fun h => absurd h (by decide)) (.tmp rfl .nil)) ⟨sn, sn, sn, sn, rfl, rfl, rfl⟩

theorem tarrylaw05_alive.ok (k : Nat)   (r1 : Bool) (h : tarrylaw05_alive.f k = some r1) :
    VCalls Tryz.prog 9 [] [] (fun v G own => v = .bool r1 ∧ G = [] ∧ own = []) := by
  refine VCalls.intro Tryz.func9 rfl (len rfl) fun E hC hW hD hU => ?_
  unfold tarrylaw05_alive.f at h
  refine sr <| vs rfl <| nx <| ?_
  replace h := bd h
  obtain ⟨⟨r8885, r8886, t8887, t8888, t8889, r8890, r8891, t8892⟩, hA8893, h⟩ := h
  dsimp only at h
  refine sC (o_call0 FO31 (journal_Format.ok k 8 r8885 r8886 t8887 t8888 t8889 r8890 r8891 t8892 hA8893) rfl rfl (ltn rfl) (All_of .nil)) <| ?_
  rintro _ _ _ ⟨v8895, v8897, v8899, v8901, rfl, rfl, rfl⟩
  refine vm rfl <| va (op_extract rfl rfl) <| va (op_extract rfl rfl) <| sG (o_alloc Z27 ZL27) fun g8902 => s1 (o_store 0 7 rfl rfl rfl TI27 (.agg (.f 0 rfl (.f 1 rfl (.c rfl (.c rfl (.c rfl (.r 0 rfl (.r 1 rfl .nil)))))))) rfl (len rfl)) <| vs rfl <| nx <|
   va (op_load 0 7 rfl rfl TI27 rfl (fun h => absurd h (by decide))) <| VL.freezeRow' 0 rfl <| VL.freezeRow' 0 rfl <| ?_
  replace h := bd h
  obtain ⟨⟨r8903, r8904, t8905, t8906, t8907, r8908, r8909, t8910⟩, hA8911, h⟩ := h
  dsimp only at h
  refine sC (o_call0 FO6 (journal_Append.ok k r8885 r8886 t8887 t8888 t8889 r8890 r8891 (⟨#[97]⟩ : ByteArray) v8895 v8897 v8899 v8901 r8903 r8904 t8905 t8906 t8907 r8908 r8909 t8910 hA8911) rfl rfl (ltn rfl) (All_of (.cons (mG 2 rfl) (.cons (mG 3 rfl) (.cons (mG 1 rfl) (.cons (mG 0 rfl) .nil)))))) <|
   ?_
  rintro _ _ _ ⟨v8913, v8915, v8917, v8919, rfl, rfl, rfl⟩
  refine vm rfl <| va (op_extract rfl rfl) <| va (op_extract rfl rfl) <| s1 (o_store 0 7 rfl rfl rfl TI27 (.agg (.f 0 rfl (.f 1 rfl (.c rfl (.c rfl (.c rfl (.f 2 rfl (.f 3 rfl .nil)))))))) rfl (len rfl)) <| vs rfl <| nx <| va (op_load 0 7 rfl rfl TI27 rfl (fun h => absurd h (by decide))) <| ?_
  replace h := bd h
  obtain ⟨⟨r8920, r8921, t8922, t8923, t8924, r8925, r8926, t8927⟩, hA8928, h⟩ := h
  dsimp only at h
  refine sC (o_call0 FO7 (journal_Commit.ok k r8903 r8904 t8905 t8906 t8907 r8908 r8909 v8913 v8915 v8917 v8919 r8920 r8921 t8922 t8923 t8924 r8925 r8926 t8927 hA8928) rfl rfl (ltn rfl) (All_of (.cons (mG 0 rfl) (.cons (mG 1 rfl) (.cons (mG 2 rfl) (.cons (mG 3 rfl) .nil)))))) <| ?_
  rintro _ _ _ ⟨v8930, v8932, v8934, v8936, rfl, rfl, rfl⟩
  refine vm rfl <| va (op_extract rfl rfl) <| va (op_extract rfl rfl) <| s1 (o_store 0 7 rfl rfl rfl TI27 (.agg (.f 0 rfl (.f 1 rfl (.c rfl (.c rfl (.c rfl (.r 0 rfl (.r 1 rfl .nil)))))))) rfl (len rfl)) <| vs rfl <| nx <| vm rfl <|
   VL.letter ((t8892 == 0)) fun b8951 hb8951 => va (op_cmp rfl rfl (congrArg some hb8951)) <| vm rfl <| ?_
  replace h := iC h
  rcases h with ⟨c8952, h⟩ | ⟨c8952, h⟩
  · obtain rfl : b8951 = true := hb8951.symm.trans (beq_iff_eq.2 c8952)
    refine vm rfl <| VL.letter ((t8910 == 0)) fun b8953 hb8953 => va (op_cmp rfl rfl (congrArg some hb8953)) <| va (op_pick rfl rfl) <| vm rfl <| ?_
    replace h := iC h
    rcases h with ⟨c8954, h⟩ | ⟨c8954, h⟩
    · obtain rfl : b8953 = true := hb8953.symm.trans (beq_iff_eq.2 c8954)
      refine vm rfl <| VL.letter ((t8927 == 0)) fun b8955 hb8955 => va (op_cmp rfl rfl (congrArg some hb8955)) <| va (op_pick rfl rfl) <| vm rfl <| ?_
      replace h := iC h
      rcases h with ⟨c8956, h⟩ | ⟨c8956, h⟩
      · obtain rfl : b8955 = true := hb8955.symm.trans (beq_iff_eq.2 c8956)
        refine va (op_fieldAddr FI27_5 rfl (add_at _ _ _)) <| va (op_load 0 1 rfl rfl TI22 rfl (by decide)) <| va (op_len_own (m := r8926.length) 1 lenm Tryz.underlying22 rfl rfl) <| VL.letter (((r8926.length : Int) == 1)) fun b8957 hb8957 => va (op_cmp rfl rfl (congrArg some hb8957)) <|
         va (op_pick rfl rfl) <| vm rfl <| ?_
        replace h := iC h
        rcases h with ⟨c8958, h⟩ | ⟨c8958, h⟩
        · obtain rfl : b8957 = true := hb8957.symm.trans (beq_iff_eq.2 c8958)
          refine va (op_fieldAddr FI27_5 rfl (add_at _ _ _)) <| va (op_load 0 1 rfl rfl TI22 rfl (by decide)) <| ?_
          replace h := bd h
          obtain ⟨x8959, hx8959, h⟩ := h
          refine VL.openR (m := r8926.length) 1 lenm rfl (pos_get hx8959) <| ?_
          rintro g8960 n8961 rfl
          refine va (op_indexAddr Tryz.underlying22 TI9 rfl rfl (by decide) (lt_get (by decide) hx8959) (add_zero_at _ _)) <| va (op_load_own (sz := 1) (o := 0) 1 0 1 rfl rfl (get_map hx8959) TI9 rfl (by decide)) <|
           VL.letter ((x8959 == (⟨#[97]⟩ : ByteArray))) fun b8962 hb8962 => va (op_cmps rfl rfl (congrArg some hb8962)) <| va (op_pick rfl rfl) <| vm rfl <| ?_
          replace h := iC h
          rcases h with ⟨c8963, h⟩ | ⟨c8963, h⟩
          · obtain rfl : b8962 = true := hb8962.symm.trans (c8963)
            refine va (op_fieldAddr FI27_1 rfl (add_at _ _ _)) <| va (op_load 0 1 rfl rfl TI3 rfl (by decide)) <| VL.letter ((t8922 == 2)) fun b8964 hb8964 => va (op_cmp rfl rfl (congrArg some hb8964)) <| va (op_pick rfl rfl) <| vs rfl <| dt <| VC.ret <| ?_
            obtain rfl := Option.some.inj h
            subst hb8964
            exact rq 0 rfl ⟨rfl, rfl, rfl⟩
          obtain rfl : b8962 = false := hb8962.symm.trans (Bool.eq_false_iff.2 c8963)
          refine un rfl <| un rfl <| un rfl <| va (op_pick rfl rfl) <| vs rfl <| dt <| VC.ret <| ?_
          obtain rfl := Option.some.inj h
          exact rq 0 rfl ⟨rfl, rfl, rfl⟩
        obtain rfl : b8957 = false := hb8957.symm.trans (beq_eq_false_iff_ne.2 c8958)
        refine un rfl <| un rfl <| un rfl <| un rfl <| un rfl <| va (op_pick rfl rfl) <| vm rfl <| un rfl <| un rfl <| un rfl <| va (op_pick rfl rfl) <| vs rfl <| dt <| VC.ret <| ?_
        obtain rfl := Option.some.inj h
        exact rq 0 rfl ⟨rfl, rfl, rfl⟩
      obtain rfl : b8955 = false := hb8955.symm.trans (beq_eq_false_iff_ne.2 c8956)
      refine un rfl <| un rfl <| un rfl <| un rfl <| va (op_pick rfl rfl) <| vm rfl <| un rfl <| un rfl <| un rfl <| un rfl <| un rfl <| va (op_pick rfl rfl) <| vm rfl <| un rfl <| un rfl <| un rfl <| va (op_pick rfl rfl) <| vs rfl <| dt <| VC.ret <| ?_
      obtain rfl := Option.some.inj h
      exact rq 0 rfl ⟨rfl, rfl, rfl⟩
    obtain rfl : b8953 = false := hb8953.symm.trans (beq_eq_false_iff_ne.2 c8954)
    refine un rfl <| un rfl <| va (op_pick rfl rfl) <| vm rfl <| un rfl <| un rfl <| un rfl <| un rfl <| va (op_pick rfl rfl) <| vm rfl <| un rfl <| un rfl <| un rfl <| un rfl <| un rfl <| va (op_pick rfl rfl) <| vm rfl <| un rfl <| un rfl <| un rfl <| va (op_pick rfl rfl) <| vs rfl <| dt <| VC.ret <|
     ?_
    obtain rfl := Option.some.inj h
    exact rq 0 rfl ⟨rfl, rfl, rfl⟩
  obtain rfl : b8951 = false := hb8951.symm.trans (beq_eq_false_iff_ne.2 c8952)
  refine un rfl <| un rfl <| va (op_pick rfl rfl) <| vm rfl <| un rfl <| un rfl <| va (op_pick rfl rfl) <| vm rfl <| un rfl <| un rfl <| un rfl <| un rfl <| va (op_pick rfl rfl) <| vm rfl <| un rfl <| un rfl <| un rfl <| un rfl <| un rfl <| va (op_pick rfl rfl) <| vm rfl <| un rfl <| un rfl <|
   un rfl <| va (op_pick rfl rfl) <| vs rfl <| dt <| VC.ret <| ?_
  obtain rfl := Option.some.inj h
  exact rq 0 rfl ⟨rfl, rfl, rfl⟩

theorem tarryref03_Right.ok (k : Nat) (l0_0 : List ByteArray) (l0_1 : List S71) (v0_0 : Value) (v0_1 : Value) (r1 : Bool) (h : tarryref03_Right.f k l0_0 l0_1 = some r1) :
    VCalls Tryz.prog 57 [.agg #[v0_0, v0_1]] [.row v0_0 1 (l0_0.map enc_str), .row v0_1 2 (l0_1.map enc71)] (fun v G own => v = .bool r1 ∧ G = [] ∧ own = []) := by
  refine VCalls.intro Tryz.func57 rfl (len rfl) fun E hC hW hD hU => ?_
  unfold tarryref03_Right.f at h
  refine sr <| sG (o_box rfl (.agg (.f 0 rfl (.f 1 rfl .nil)))) fun g8988 => vs rfl <| ds <| sr <| va (op_fieldAddr FI25_0 rfl (add_at _ _ _)) <| va (op_load 0 1 rfl rfl TI22 rfl (by decide)) <| va (op_len (m := l0_0.length) 0 lenm Tryz.underlying22 rfl rfl) <| vm rfl <| dt <| VC.block <|
   VC.loop1 (fun (i9046 : Int) => ⟨59, [(1, pt g8988 0), (2, .bool false), (8, v0_0), (9, iv (l0_0.length : Int)), (10, iv i9046)], [.row v0_0 1 (l0_0.map enc_str), .row v0_1 2 (l0_1.map enc71)], [(g8988, 25, [v0_0, v0_1])], []⟩) (fun (ml1 : Nat) (i9046 : Int) => tarryref03_Right.l1 k l0_0 l0_1 ml1 i9046 = some r1) k 0 [0] [] h ⟨rfl, ⟨rfl, rfl, rfl, rfl, rfl, trivial⟩, ⟨⟨0, rfl⟩, ⟨1, rfl⟩, trivial⟩, rfl, by decide, rfl, by decide⟩ (by intros; simp [tarryref03_Right.l1]) <|
   ?_
  clear h
  intro ml1 ihl1 i9046 h
  simp only [tarryref03_Right.l1] at h
  refine sr <| VL.letter (decide (i9046 < (l0_0.length : Int))) fun b9062 hb9062 => va (op_cmp rfl rfl (congrArg some hb9062)) <| ds <| ?_
  replace h := iC h
  rcases h with ⟨c9292, h⟩ | ⟨c9292, h⟩
  · cases lT c9292 hb9062
    refine ct <| sk <| sq <| VC.block <| sr <| ?_
    replace h := iN h
    obtain ⟨c9299, h⟩ := h
    replace h := bd h
    obtain ⟨x9300, hx9300, h⟩ := h
    refine VL.open (m := l0_0.length) 0 lenm rfl (pos_get hx9300) <| ?_
    rintro ad9301 n9302 rfl
    refine va (op_indexAddr Tryz.underlying22 TI9 rfl rfl c9299 (lt_get c9299 hx9300) rfl) <| va (op_load_row (sz := 1) (o := 0) 0 i9046.toNat 1 rfl rfl (get_map hx9300) TI9 rfl (by decide)) <| vs rfl <| nx <| vm rfl <| va (op_lens Tryz.underlying9 rfl) <|
     VL.letter (((x9300.size : Int) != 64)) fun b9303 hb9303 => va (op_cmp rfl rfl (congrArg some hb9303)) <| dt <| ?_
    replace h := iC h
    rcases h with ⟨c9304, h⟩ | ⟨c9304, h⟩
    · obtain rfl : b9303 = false := hb9303.symm.trans (bne_eq_false_iff_eq.2 c9304)
      refine cf <| VC.skip <| VN.block <| tr <| va (op_ari64 rfl rfl rfl) <| vm rfl <| dn <| VN.again [0] [] (ihl1 (wrap64 (i9046 + 1)) h)
    obtain rfl : b9303 = true := hb9303.symm.trans (bne_iff_ne.2 c9304)
    refine ct <| sr <| vs rfl <| dt <| VC.ret <| VR.block <| VR.then <| VR.then <| VR.block <| VR.then <| ?_
    obtain rfl := Option.some.inj h
    exact rq 2 rfl ⟨rfl, rfl, rfl⟩
  cases lF c9292 hb9062
  refine cf <| VC.exit <| VX.then <| VX.then <| VX.hit <| ts <| sr <| va (op_fieldAddr FI25_1 rfl (add_at _ _ _)) <| va (op_load 0 1 rfl rfl TI23 rfl (by decide)) <| va (op_len (m := l0_1.length) 1 lenm Tryz.underlying23 rfl rfl) <| vm rfl <| dt <| VC.block <|
   VC.loop1 (fun (i9442 : Int) => ⟨59, [(1, pt g8988 0), (2, .bool false), (19, v0_1), (20, iv (l0_1.length : Int)), (21, iv i9442)], [.row v0_1 2 (l0_1.map enc71), .row v0_0 1 (l0_0.map enc_str)], [(g8988, 25, [v0_0, v0_1])], []⟩) (fun (ml5 : Nat) (i9442 : Int) => tarryref03_Right.l5 k l0_0 l0_1 ml5 i9442 = some r1) k 0 [0] [] h ⟨rfl, ⟨rfl, rfl, rfl, rfl, rfl, trivial⟩, ⟨⟨1, rfl⟩, ⟨0, rfl⟩, trivial⟩, rfl, by decide, rfl, by decide⟩ (by intros; simp [tarryref03_Right.l5]) <|
   ?_
  clear h
  intro ml5 ihl5 i9442 h
  simp only [tarryref03_Right.l5] at h
  refine sr <| VL.letter (decide (i9442 < (l0_1.length : Int))) fun b9478 hb9478 => va (op_cmp rfl rfl (congrArg some hb9478)) <| ds <| ?_
  replace h := iC h
  rcases h with ⟨c9490, h⟩ | ⟨c9490, h⟩
  · cases lT c9490 hb9478
    refine ct <| sk <| sq <| VC.block <| sr <| ?_
    replace h := iN h
    obtain ⟨c9507, h⟩ := h
    replace h := bd h
    obtain ⟨x9508, hx9508, h⟩ := h
    refine VL.open (m := l0_1.length) 0 lenm rfl (pos_get hx9508) <| ?_
    rintro ad9509 n9510 rfl
    refine va (op_indexAddr Tryz.underlying23 TI72 rfl rfl c9507 (lt_get c9507 hx9508) rfl) <| va (op_load_row (sz := 2) (o := 0) 0 i9442.toNat 2 rfl rfl (get_map hx9508) TI72 rfl (fun h => absurd h (by decide))) <|
     sG (o_alloc Z72 ZL72) fun g9511 => s1 (o_store 0 2 rfl rfl rfl TI72 (.agg (.of rfl)) rfl (len rfl)) <| nx <| va (op_fieldAddr FI72_0 rfl (add_at _ _ _)) <| va (op_load 0 1 rfl rfl TI3 rfl (by decide)) <|
     VL.letter (decide (x9508.f0 < 0)) fun b9517 hb9517 => va (op_cmp rfl rfl (congrArg some hb9517)) <| vm rfl <| ?_
    replace h := iC h
    rcases h with ⟨c9518, h⟩ | ⟨c9518, h⟩
    · cases lT c9518 hb9517
      refine un rfl <| un rfl <| un rfl <| un rfl <| un rfl <| un rfl <| va (op_pick rfl rfl) <| vm rfl <| un rfl <| un rfl <| un rfl <| un rfl <| va (op_pick rfl rfl) <| dt <| ct <| sr <| vs rfl <| dt <| VC.ret <| VR.block <| VR.then <| VR.then <| VR.block <| VR.then <| ?_
      obtain rfl := Option.some.inj h
      exact rq 2 rfl ⟨rfl, rfl, rfl⟩
    cases lF c9518 hb9517
    refine va (op_fieldAddr FI72_0 rfl (add_at _ _ _)) <| va (op_load 0 1 rfl rfl TI3 rfl (by decide)) <| va (op_fieldAddr FI25_0 rfl (add_at _ _ _)) <| va (op_load 1 1 rfl rfl TI22 rfl (by decide)) <| va (op_len (m := l0_0.length) 1 lenm Tryz.underlying22 rfl rfl) <|
     VL.letter (decide (x9508.f0 ≥ (l0_0.length : Int))) fun b9519 hb9519 => va (op_cmp rfl rfl (congrArg some hb9519)) <| va (op_pick rfl rfl) <| vm rfl <| ?_
    replace h := iC h
    rcases h with ⟨c9520, h⟩ | ⟨c9520, h⟩
    · cases lT c9520 hb9519
      refine un rfl <| un rfl <| un rfl <| un rfl <| va (op_pick rfl rfl) <| dt <| ct <| sr <| vs rfl <| dt <| VC.ret <| VR.block <| VR.then <| VR.then <| VR.block <| VR.then <| ?_
      obtain rfl := Option.some.inj h
      exact rq 2 rfl ⟨rfl, rfl, rfl⟩
    cases lF c9520 hb9519
    refine va (op_fieldAddr FI72_1 rfl (add_at _ _ _)) <| va (op_load 0 1 rfl rfl TI9 rfl (by decide)) <| va (op_lens Tryz.underlying9 rfl) <| VL.letter (((x9508.f1.size : Int) != 64)) fun b9521 hb9521 => va (op_cmp rfl rfl (congrArg some hb9521)) <| va (op_pick rfl rfl) <| dt <| ?_
    replace h := iC h
    rcases h with ⟨c9522, h⟩ | ⟨c9522, h⟩
    · obtain rfl : b9521 = false := hb9521.symm.trans (bne_eq_false_iff_eq.2 c9522)
      refine cf <| VC.skip <| VN.block <| tr <| va (op_ari64 rfl rfl rfl) <| vm rfl <| dn <| VN.again [1] [] (ihl5 (wrap64 (i9442 + 1)) h)
    obtain rfl : b9521 = true := hb9521.symm.trans (bne_iff_ne.2 c9522)
    refine ct <| sr <| vs rfl <| dt <| VC.ret <| VR.block <| VR.then <| VR.then <| VR.block <| VR.then <| ?_
    obtain rfl := Option.some.inj h
    exact rq 2 rfl ⟨rfl, rfl, rfl⟩
  cases lF c9490 hb9478
  refine cf <| VC.exit <| VX.then <| VX.then <| VX.hit <| tx <| va (op_fieldAddr FI25_0 rfl (add_at _ _ _)) <| va (op_load 0 1 rfl rfl TI22 rfl (by decide)) <| va (op_len (m := l0_0.length) 1 lenm Tryz.underlying22 rfl rfl) <|
   VL.letter (decide ((l0_0.length : Int) > 0)) fun b9528 hb9528 => va (op_cmp rfl rfl (congrArg some hb9528)) <| vm rfl <| ?_
  replace h := iC h
  rcases h with ⟨c9529, h⟩ | ⟨c9529, h⟩
  · cases lT c9529 hb9528
    refine va (op_fieldAddr FI25_0 rfl (add_at _ _ _)) <| va (op_load 0 1 rfl rfl TI22 rfl (by decide)) <| va (op_len (m := l0_0.length) 1 lenm Tryz.underlying22 rfl rfl) <| VL.letter (decide ((l0_0.length : Int) ≤ 512)) fun b9530 hb9530 => va (op_cmp rfl rfl (congrArg some hb9530)) <|
     va (op_pick rfl rfl) <| vm rfl <| ?_
    replace h := iC h
    rcases h with ⟨c9531, h⟩ | ⟨c9531, h⟩
    · cases lT c9531 hb9530
      refine va (op_fieldAddr FI25_1 rfl (add_at _ _ _)) <| va (op_load 0 1 rfl rfl TI23 rfl (by decide)) <| va (op_len (m := l0_1.length) 0 lenm Tryz.underlying23 rfl rfl) <| VL.letter (decide ((l0_1.length : Int) ≤ 64)) fun b9532 hb9532 => va (op_cmp rfl rfl (congrArg some hb9532)) <|
       va (op_pick rfl rfl) <| vs rfl <| dt <| VC.ret <| ?_
      obtain rfl := Option.some.inj h
      subst hb9532
      exact rq 2 rfl ⟨rfl, rfl, rfl⟩
    cases lF c9531 hb9530
    refine un rfl <| un rfl <| un rfl <| un rfl <| va (op_pick rfl rfl) <| vs rfl <| dt <| VC.ret <| ?_
    obtain rfl := Option.some.inj h
    exact rq 2 rfl ⟨rfl, rfl, rfl⟩
  cases lF c9529 hb9528
  refine un rfl <| un rfl <| un rfl <| un rfl <| va (op_pick rfl rfl) <| vm rfl <| un rfl <| un rfl <| un rfl <| un rfl <| va (op_pick rfl rfl) <| vs rfl <| dt <| VC.ret <| ?_
  obtain rfl := Option.some.inj h
  exact rq 2 rfl ⟨rfl, rfl, rfl⟩

theorem tarryref05_number.ok (k : Nat) (a0 : ByteArray)  (r1 : Int) (h : tarryref05_number.f k a0 = some r1) :
    VCalls Tryz.prog 77 [.string a0] [] (fun v G own => v = iv r1 ∧ G = [] ∧ own = []) := by
  refine VCalls.intro Tryz.func77 rfl (len rfl) fun E hC hW hD hU => ?_
  unfold tarryref05_number.f at h
  refine sr <| vs rfl <| nx <| vs rfl <| ds <| sr <| vm rfl <| va (op_lens Tryz.underlying9 rfl) <| va (op_ari64 rfl rfl rfl) <| vs rfl <| dt <| VC.block <|
   VC.loop2 (fun (i9639 : Int) (i9640 : Int) => ⟨22, [(0, .string a0), (2, iv 0), (3, iv i9639), (4, iv i9640)], [], [], []⟩) (fun (ml1 : Nat) (i9639 : Int) (i9640 : Int) => tarryref05_number.l1 k a0 ml1 i9639 i9640 = some r1) k 0 (wrap64 ((a0.size : Int) - 1)) [] [] h ⟨rfl, ⟨rfl, rfl, rfl, rfl, trivial⟩, trivial, rfl, by decide, rfl, by decide⟩ (by intros; simp [tarryref05_number.l1]) <|
   ?_
  clear h
  intro ml1 ihl1 i9639 i9640 h
  simp only [tarryref05_number.l1] at h
  refine sq <| sr <| vm rfl <| VL.letter (decide (i9640 ≥ 0)) fun b9655 hb9655 => va (op_cmp rfl rfl (congrArg some hb9655)) <| dt <| ?_
  replace h := iC h
  rcases h with ⟨c9656, h⟩ | ⟨c9656, h⟩
  · cases lT c9656 hb9655
    refine ct <| sk <| sq <| VC.block <| sr <| vm rfl <| va (op_ari64 rfl rfl rfl) <| vm rfl <| vm rfl <| ?_
    replace h := iN h
    obtain ⟨c9661, h⟩ := h
    replace h := iN h
    obtain ⟨c9662, h⟩ := h
    refine va (op_indexS Tryz.underlying9 rfl rfl c9661 c9662 rfl) <| va (op_conv Tryz.underlying5 Tryz.underlying3 rfl (i64w _)) <| va (op_ari64 rfl rfl rfl) <| vs rfl <| nx <| vm rfl <|
     VL.letter (decide ((wrap64 ((wrap64 (256 * i9639)) + (wrap64 (bt a0 i9640)))) > 2199023255552)) fun b9663 hb9663 => va (op_cmp rfl rfl (congrArg some hb9663)) <| dt <| ?_
    replace h := iC h
    rcases h with ⟨c9664, h⟩ | ⟨c9664, h⟩
    · cases lT c9664 hb9663
      refine ct <| sr <| vs rfl <| dt <| VC.ret <| VR.block <| VR.then <| VR.then <| VR.block <| VR.then <| ?_
      obtain rfl := Option.some.inj h
      exact rq 2 rfl ⟨rfl, rfl, rfl⟩
    cases lF c9664 hb9663
    refine cf <| VC.skip <| VN.block <| tr <| vm rfl <| va (op_ari64 rfl rfl rfl) <| vs rfl <| dn <| VN.again [] [] (ihl1 (wrap64 ((wrap64 (256 * i9639)) + (wrap64 (bt a0 i9640)))) (wrap64 (i9640 - 1)) h)
  cases lF c9656 hb9655
  refine cf <| VC.exit <| VX.then <| VX.then <| VX.hit <| tx <| vm rfl <| vs rfl <| dt <| VC.ret <| ?_
  obtain rfl := Option.some.inj h
  exact rq 2 rfl ⟨rfl, rfl, rfl⟩

theorem tarryref05_Room.ok (a0 : Int)  (r1 : Int) (h : tarryref05_Room.f a0 = some r1) :
    VCalls Tryz.prog 16 [iv a0] [] (fun v G own => v = iv r1 ∧ G = [] ∧ own = []) := by
  refine VCalls.intro Tryz.func16 rfl (len rfl) fun E hC hW hD hU => ?_
  unfold tarryref05_Room.f at h
  refine sr <| vs rfl <| nx <| vm rfl <| va (op_ari64 rfl rfl rfl) <| va (op_quo rfl rfl (by decide) rfl) <| va (op_ari64 rfl rfl rfl) <| vs rfl <| dt <| VC.ret <| ?_
  obtain rfl := Option.some.inj h
  exact rq 2 rfl ⟨rfl, rfl, rfl⟩

theorem tarryref05_low.ok (k : Nat) (a0 : Int) (a1 : Int)  (r1 : ByteArray) (h : tarryref05_low.f k a0 a1 = some r1) :
    VCalls Tryz.prog 66 [iv a0, iv a1] [] (fun v G own => v = .string r1 ∧ G = [] ∧ own = []) := by
  refine VCalls.intro Tryz.func66 rfl (len rfl) fun E hC hW hD hU => ?_
  unfold tarryref05_low.f at h
  refine sr <| vs rfl <| nx <| sG (o_buildSlice (vals := []) (cells := #[]) (es := List.map enc_intu8 ([] : List Int)) Tryz.underlying68 TI5 Z5 rfl (by decide) (by decide) (by kernel_rfl) (by kernel_rfl) rfl (flat_map enc_intu8_ok _)) fun v9708 => vs rfl <| ds <| sr <| vs rfl <| dt <| VC.block <|
   VC.loop4 (fun (i9750 : Int) (v9752 : Value) (l9753 : List Int) (i9754 : Int) => ⟨23, [(0, iv i9750), (1, iv a1), (4, .string (⟨#[]⟩ : ByteArray)), (5, v9752), (6, iv i9754)], [], [], [(v9752, 5, 1, l9753.map enc_intu8)]⟩) (fun (ml1 : Nat) (i9750 : Int) (v9752 : Value) (l9753 : List Int) (i9754 : Int) => tarryref05_low.l1 k a1 ml1 i9750 l9753 i9754 = some r1) k a0 v9708 ([] : List Int) 0 [] [0] h ⟨rfl, ⟨rfl, rfl, rfl, rfl, rfl, trivial⟩, trivial, rfl, by decide, rfl, by decide⟩ (by intros; simp [tarryref05_low.l1]) <|
   ?_
  clear h
  intro ml1 ihl1 i9750 v9752 l9753 i9754 h
  simp only [tarryref05_low.l1] at h
  refine sq <| sr <| vm rfl <| vm rfl <| VL.letter (decide (i9754 < a1)) fun b9766 hb9766 => va (op_cmp rfl rfl (congrArg some hb9766)) <| dt <| ?_
  replace h := iC h
  rcases h with ⟨c9767, h⟩ | ⟨c9767, h⟩
  · cases lT c9767 hb9766
    refine ct <| sk <| sq <| VC.block <| sr <| vm rfl <| vm rfl <| va (op_rem rfl rfl (by decide) rfl) <| va (op_conv Tryz.underlying3 Tryz.underlying5 rfl rfl) <|
     sG (o_buildSlice (vals := [(0, .int .u8 (IntKind.u8.wrap (i9750.tmod 256)))]) (cells := #[.int .u8 (IntKind.u8.wrap (i9750.tmod 256))]) (es := List.map enc_intu8 ([IntKind.u8.wrap (i9750.tmod 256)] : List Int)) Tryz.underlying68 TI5 Z5 rfl (by decide) (by decide) (by kernel_rfl) (by kernel_rfl) rfl (flat_map enc_intu8_ok _)) fun v9769 => ?_
    replace h := iN h
    obtain ⟨c9770, h⟩ := h
    refine sG (o_append 1 appm Tryz.underlying68 EI5 rfl rfl rfl (.inr ⟨0, _, rfl⟩) (bndm c9770)) fun v9771 => vs rfl <| dr <| vm rfl <| va (op_quo rfl rfl (by decide) rfl) <| vs rfl <| dn <| VN.block <| tr <| vm rfl <| va (op_ari64 rfl rfl rfl) <| vs rfl <| dn <|
     VN.again [] [1] (ihl1 (IntKind.i64.wrap (i9750.tdiv 256)) v9771 (l9753 ++ ([IntKind.u8.wrap (i9750.tmod 256)] : List Int)) (wrap64 (i9754 + 1)) h)
  cases lF c9767 hb9766
  refine cf <| VC.exit <| VX.then <| VX.then <| VX.hit <| tx <| vm rfl <| va (op_bytesStr_own (xs := l9753) 0 rfl rfl Tryz.underlying68 Tryz.underlying9 Tryz.underlying5 rfl rfl) <| vs rfl <| dt <| VC.ret <| ?_
  obtain rfl := Option.some.inj h
  exact rq 4 rfl ⟨rfl, rfl, rfl⟩

theorem tarryref05_Head.ok (k : Nat) (a0 : Int) (a1 : Int) (a2 : Int)  (r1 : ByteArray) (h : tarryref05_Head.f k a0 a1 a2 = some r1) :
    VCalls Tryz.prog 43 [iv a0, iv a1, iv a2] [] (fun v G own => v = .string r1 ∧ G = [] ∧ own = []) := by
  refine VCalls.intro Tryz.func43 rfl (len rfl) fun E hC hW hD hU => ?_
  unfold tarryref05_Head.f at h
  refine sr <| vs rfl <| nx <| vm rfl <| ?_
  replace h := bd h
  obtain ⟨t9773, hA9774, h⟩ := h
  refine sC (o_call0 FO66 (tarryref05_low.ok k a1 1 t9773 hA9774) rfl rfl (ltn rfl) (All_of .nil)) <| ?_
  rintro _ _ _ ⟨rfl, rfl, rfl⟩
  replace h := iN h
  obtain ⟨c9775, h⟩ := h
  refine va (op_adds rfl rfl rfl c9775) <| vm rfl <| ?_
  replace h := bd h
  obtain ⟨t9776, hA9777, h⟩ := h
  refine sC (o_call0 FO66 (tarryref05_low.ok k a0 8 t9776 hA9777) rfl rfl (ltn rfl) (All_of .nil)) <| ?_
  rintro _ _ _ ⟨rfl, rfl, rfl⟩
  replace h := iN h
  obtain ⟨c9778, h⟩ := h
  refine va (op_adds rfl rfl rfl c9778) <| vm rfl <| ?_
  replace h := bd h
  obtain ⟨t9779, hA9780, h⟩ := h
  refine sC (o_call0 FO66 (tarryref05_low.ok k a2 4 t9779 hA9780) rfl rfl (ltn rfl) (All_of .nil)) <| ?_
  rintro _ _ _ ⟨rfl, rfl, rfl⟩
  replace h := iN h
  obtain ⟨c9781, h⟩ := h
  refine va (op_adds rfl rfl rfl c9781) <| vs rfl <| ds <| VC.block <|
   VC.loop1 (fun (s9803 : ByteArray) => ⟨25, [(6, .string (⟨#[]⟩ : ByteArray)), (7, .string s9803)], [], [], []⟩) (fun (ml1 : Nat) (s9803 : ByteArray) => tarryref05_Head.l1 k ml1 s9803 = some r1) k ((((⟨#[116, 97, 114, 114, 121]⟩ : ByteArray) ++ t9773) ++ t9776) ++ t9779) [] [] h ⟨rfl, ⟨rfl, rfl, trivial⟩, trivial, rfl, by decide, rfl, by decide⟩ (by intros; simp [tarryref05_Head.l1]) <|
   ?_
  clear h
  intro ml1 ihl1 s9803 h
  simp only [tarryref05_Head.l1] at h
  refine sq <| sr <| vm rfl <| va (op_lens Tryz.underlying9 rfl) <| VL.letter (decide ((s9803.size : Int) < 32)) fun b9812 hb9812 => va (op_cmp rfl rfl (congrArg some hb9812)) <| dt <| ?_
  replace h := iC h
  rcases h with ⟨c9813, h⟩ | ⟨c9813, h⟩
  · cases lT c9813 hb9812
    refine ct <| sk <| VC.block <| rg <| vm rfl <| ?_
    replace h := iN h
    obtain ⟨c9814, h⟩ := h
    refine va (op_adds rfl rfl rfl c9814) <| vs rfl <| dn <| VN.block <| VN.again [] [] (ihl1 (s9803 ++ (⟨#[0]⟩ : ByteArray)) h)
  cases lF c9813 hb9812
  refine cf <| VC.exit <| VX.then <| VX.then <| VX.hit <| tx <| vm rfl <| vm rfl <| ?_
  replace h := iN h
  obtain ⟨c9815, h⟩ := h
  refine va (op_adds rfl rfl rfl c9815) <| vs rfl <| dt <| VC.ret <| ?_
  obtain rfl := Option.some.inj h
  exact rq 6 rfl ⟨rfl, rfl, rfl⟩

end Go.Proofs.YtipeglbeongfmaaGreat.PJournalSeals
