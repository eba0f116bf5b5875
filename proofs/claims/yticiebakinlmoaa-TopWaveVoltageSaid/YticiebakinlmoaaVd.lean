/- Arguments of chapter 8 that fit their types. -/
import Derived.Test.YticiebakinlmoaaVa
import Derived.Test.YticiebakinlmoaaFb
namespace Go.Proofs.Try
open Go.Fw
theorem fit_two {C : Ctx} {d : Nat} {t a b : TypeId} {i j k : TI} {xs : List SC} {o1 o2 : Nat} (hi : C.ti t = some i) (hk : i.cls = .struct [(o1, a), (o2, b)]) (ha : C.ti a = some j) (hb : C.ti b = some k) (ja : j.cls = .int .i64) (kb : k.cls = .int .i64) (h : Fit C (d + 2) t xs) : ∃ p q : Int, xs = [.lit (.int .i64 p), .lit (.int .i64 q)] ∧ inI p ∧ inI q := by
  obtain ⟨p, q, rfl, h2, p', q', rfl, h3, rfl⟩ := fit_struct hi hk h
  obtain ⟨n, rfl, n1, n2⟩ := fit_i64 ha ja h2
  obtain ⟨m, rfl, m1, m2⟩ := fit_i64 hb kb h3
  exact ⟨n, m, rfl, ⟨n1, n2⟩, ⟨m1, m2⟩⟩
theorem fit_oneInt {d : Nat} {x : SV} (h : FitV cx (d + 1) 3 x) : ∃ n : Int, x = I n ∧ inI n := by
  obtain ⟨e, h1⟩ := fitV_one rfl rfl h
  obtain ⟨n, e1, h2, h3⟩ := fit_i64 (by rfl) (by rfl) h1
  exact ⟨n, by rw [e, e1], h2, h3⟩
theorem fit_range {d : Nat} {x : SV} (h : FitV cx (d + 2) 36 x) : ∃ a b : Int, x = F2 a b ∧ inI a ∧ inI b := by
  obtain ⟨e, h1⟩ := fitV_agg rfl rfl h
  obtain ⟨a, b, e1, h2, h3⟩ := fit_two (by rfl) (by rfl) (by rfl) (by rfl) (by rfl) (by rfl) h1
  exact ⟨a, b, by rw [e, e1], h2, h3⟩
theorem fit_ranges2 {d : Nat} {x : SV} (h : FitV cx (d + 3) 86 x) : ∃ a b c d : Int, x = F4 a b c d := by
  obtain ⟨e, h1⟩ := fitV_agg rfl rfl h
  obtain ⟨p, q, e1, h2, p2, q2, e2, h3, e3⟩ := fit_array (by rfl) (by rfl) h1
  obtain ⟨a, b, rfl, _⟩ := fit_two (by rfl) (by rfl) (by rfl) (by rfl) (by rfl) (by rfl) h2
  obtain ⟨c, d, rfl, _⟩ := fit_two (by rfl) (by rfl) (by rfl) (by rfl) (by rfl) (by rfl) h3
  exact ⟨a, b, c, d, by rw [e, e1, e2, e3]; rfl⟩
theorem fit_figures {d : Nat} {x : SV} (h : FitV cx (d + 3) 38 x) : ∃ t p q a b c d e f : Int, x = (true, [J t, J p, J q, J a, J b, J c, J d, J e, J f]) := by
  obtain ⟨e, h1⟩ := fitV_agg rfl rfl h
  obtain ⟨p1, q1, e1, h1, p2, q2, e2, h2, p3, q3, e3, h3, p4, q4, e4, h4, p5, q5, e5, h5, e6⟩ := fit_struct (by rfl) (by rfl) h1
  obtain ⟨t, rfl, _⟩ := fit_i64 (by rfl) (by rfl) h1
  obtain ⟨p, q, rfl, _⟩ := fit_two (by rfl) (by rfl) (by rfl) (by rfl) (by rfl) (by rfl) h2
  obtain ⟨a, b, rfl, _⟩ := fit_two (by rfl) (by rfl) (by rfl) (by rfl) (by rfl) (by rfl) h3
  obtain ⟨c, d, rfl, _⟩ := fit_two (by rfl) (by rfl) (by rfl) (by rfl) (by rfl) (by rfl) h4
  obtain ⟨i, j, rfl, _⟩ := fit_two (by rfl) (by rfl) (by rfl) (by rfl) (by rfl) (by rfl) h5
  refine ⟨t, p, q, a, b, c, d, i, j, ?_⟩
  rw [e, e1, e2, e3, e4, e5, e6]; rfl
theorem fit_span {d : Nat} {xs : List SC} (h : Fit cx (d + 3) 25 xs) : ∃ q : Sp, xs = sp q ∧ SpI q := by
  obtain ⟨p1, q1, e1, h1, p2, q2, e2, h2, e3⟩ := fit_struct (by rfl) (by rfl) h
  obtain ⟨a, b, rfl, ha, hb⟩ := fit_two (by rfl) (by rfl) (by rfl) (by rfl) (by rfl) (by rfl) h1
  obtain ⟨c, d, rfl, hc, hd⟩ := fit_two (by rfl) (by rfl) (by rfl) (by rfl) (by rfl) (by rfl) h2
  exact ⟨(a, b, c, d), by rw [e1, e2, e3]; rfl, ha, hb, hc, hd⟩
theorem fit_spans {d : Nat} {es : List (List SC)} (h : ∀ e ∈ es, Fit cx (d + 3) 25 e) : ∃ ch : List Sp, es = ch.map sp ∧ ∀ s ∈ ch, SpI s := by
  induction es with
  | nil => exact ⟨[], rfl, by simp⟩
  | cons e es ih =>
    obtain ⟨q, rfl, hq⟩ := fit_span (h e (List.mem_cons_self ..))
    obtain ⟨ch, rfl, hch⟩ := ih fun e he => h e (List.mem_cons_of_mem _ he)
    refine ⟨q :: ch, rfl, fun s hs => ?_⟩
    rcases List.mem_cons.1 hs with rfl | hs
    · exact hq
    · exact hch s hs
theorem fit_rules {x : SV} (h : FitV cx 5 28 x) : ∃ e q ch, x = Ru e q ch ∧ SpI q ∧ (∀ s ∈ ch, SpI s) ∧ ch.length ≤ maxLen := by
  obtain ⟨e, h1⟩ := fitV_agg rfl rfl h
  obtain ⟨p1, q1, e1, h1, p2, q2, e2, h2, p3, q3, e3, h3, e4⟩ := fit_struct (by rfl) (by rfl) h1
  obtain ⟨n, rfl, _⟩ := fit_i64 (by rfl) (by rfl) h1
  obtain ⟨q, rfl, hq⟩ := fit_span h2
  obtain ⟨es, rfl, hl, hes⟩ := fit_view (by rfl) (by rfl) (by rfl) h3
  obtain ⟨ch, rfl, hch⟩ := fit_spans hes
  refine ⟨n, q, ch, ?_, hq, hch, by simpa using hl⟩
  rw [e, e1, e2, e3, e4]; rfl
theorem fit_record {d : Nat} {x : SV} (h : FitV cx (d + 2) 31 x) : ∃ st l, x = Rc st l ∧ l.length ≤ maxLen ∧ ∀ n ∈ l, inI n := by
  obtain ⟨e, h1⟩ := fitV_agg rfl rfl h
  obtain ⟨p1, q1, e1, h1, p2, q2, e2, h2, e3⟩ := fit_struct (by rfl) (by rfl) h1
  obtain ⟨n, rfl, _⟩ := fit_i64 (by rfl) (by rfl) h1
  obtain ⟨l, rfl, hl, hi⟩ := fit_ints (by rfl) (by rfl) (by rfl) h2
  refine ⟨n, l, ?_, hl, fun n hn => hi n hn⟩
  rw [e, e1, e2, e3]; rfl
end Go.Proofs.Try
