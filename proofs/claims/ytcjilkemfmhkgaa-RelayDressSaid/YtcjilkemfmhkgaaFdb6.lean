import Derived.Test.YtcjilkemfmhkgaaFdb5
namespace Go.Proofs.Ytcjilkemfmhkgaa
open Go.Vc
set_option maxRecDepth 10000
set_option maxHeartbeats 4000000

/-! ### fdb: the head of the laws -/

theorem GoodE.learn {E : List FEnt} (g : GoodE E) {room age v port now lost : Int} {m : Mac6} (hl : E.length < 1000) (h1 : 0 ≤ now) (h2 : now ≤ 1152921504606846976) : GoodE (learnF room age v m port now E lost).2.1 := by
  unfold learnF
  have g1 := g.filter fun y => !(y.old age now)
  have hle := List.length_filter_le (fun y : FEnt => !(y.old age now)) E
  generalize (E.filter fun y => !(y.old age now)) = E1 at g1 hle
  split
  · exact g
  · split
    · have g2 := g1.filter fun y => !(y.key v m)
      have hle2 := List.length_filter_le (fun y : FEnt => !(y.key v m)) E1
      refine ⟨?_, fun x hx => ?_, List.pairwise_append.2 ⟨g2.apart, List.pairwise_singleton _ _, fun a ha b hb => ?_⟩⟩
      · rw [List.length_append, List.length_singleton]
        omega
      · rcases List.mem_append.1 hx with hx | hx
        · exact g2.seen x hx
        · rw [List.mem_singleton.1 hx]
          exact ⟨h1, h2⟩
      · rw [List.mem_singleton.1 hb]
        have ha2 := (List.mem_filter.1 ha).2
        intro e
        rw [show a.key v m = true from decide_eq_true e] at ha2
        cases ha2
    · rename_i hany
      split
      · exact g1
      · refine ⟨?_, fun x hx => ?_, List.pairwise_append.2 ⟨g1.apart, List.pairwise_singleton _ _, fun a ha b hb => ?_⟩⟩
        · rw [List.length_append, List.length_singleton]
          omega
        · rcases List.mem_append.1 hx with hx | hx
          · exact g1.seen x hx
          · rw [List.mem_singleton.1 hx]
            exact ⟨h1, h2⟩
        · rw [List.mem_singleton.1 hb]
          intro e
          exact hany (List.any_eq_true.2 ⟨a, ha, decide_eq_true e⟩)

theorem GoodE.nil : GoodE [] := ⟨by decide, by simp, List.Pairwise.nil⟩

def ma : Mac6 := ⟨2, 1, 0, 0, 0, 0⟩
def mb : Mac6 := ⟨2, 2, 0, 0, 0, 0⟩
def mg : Mac6 := ⟨1, 0, 0, 0, 0, 0⟩

end Go.Proofs.Ytcjilkemfmhkgaa
