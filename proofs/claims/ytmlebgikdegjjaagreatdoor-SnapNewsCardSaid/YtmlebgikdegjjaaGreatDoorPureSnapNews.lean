/- SnapNews' plain statement: which definitions make a snapshot, all of them in order, each by its key, in whatever order they come. -/
import Derived.Test.YtmlebgikdegjjaaGreatDoorPz
import Derived.Test.YtmlebgikdegjjaaGreatDoorPw
import Derived.Test.YtmlebgikdegjjaaGreatDoorUz
namespace Go.Proofs.YtmlebgikdegjjaaGreatDoor.Pure
open Go.RowKit Go.Proofs.YtmlebgikdegjjaaGreatDoor.PAll Go.Proofs.YtmlebgikdegjjaaGreatDoorW.PrintWords Go.Proofs.YtmlebgikdegjjaaGreatDoorW.PrintLast
open Go.Proofs.YtmlebgikdegjjaaGreatDoor.Hd (newL newGo news_few news_long news_bad news_go new_mapK Wok)
set_option linter.unusedVariables false
theorem right_size {d : SD} (h : (keyS d).size ≠ 0) : rightB d = true:=by
 cases hr : rightB d with
 | true=>rfl
 | false =>
  rw [wrong_key hr] at h
  exact absurd rfl h
theorem SnapNews (A0 : Option Addr) (c0 : Nat) (l : List SD) (ks : ByteArray) (turn : Int) (w : World) (hr0 : Kd.C k34 w A0 l.length l) (hc0 : l.length ≤ c0) :
  Calls Tryz.prog 5 #[.slice A0 l.length c0,.string ks,.int .i64 turn] w fun e w'=>e = .returned (.bool true) ∧ Below w.heap.size w w':=by
 obtain ⟨bl,hbl,hfl⟩:=few07_tot l 20 (by decide)
 obtain ⟨K1,h1⟩:=ev_out hbl
 cases bl with
 | false=>exact news_few K1 keyS A0 c0 l ks turn w hr0 hc0 (h1 K1 (Nat.le_refl _))
 | true =>
  by_cases hn : ks.size ≤ 700
  case neg=>exact news_long K1 keyS A0 c0 l ks turn w hr0 hc0 (h1 K1 (Nat.le_refl _)) hn
  case pos =>
   obtain ⟨hln,hls0⟩:=hfl rfl
   have hLs : ∀ d ∈ l,smallB d = true:=hls0
   clear hls0
   obtain ⟨K2,h2⟩:=all_ev (g:=fun (d : SD) k=>def_Key.f k d.f0 d.f1 d.f2 d.f3 d.f4 d.f5) (v:=keyS) l (fun d hd=>key_ev (hLs d hd))
   obtain ⟨K3,h3⟩:=all_ev2 (g:=fun (x y : SD) k=>def_Same.f k x.f0 x.f1 x.f2 x.f3 x.f4 x.f5 y.f0 y.f1 y.f2 y.f3 y.f4 y.f5) (v:=smS) l l (fun x hx y _=>same_ev (hLs x hx))
   obtain ⟨K5,h5⟩:=all_ev2 (g:=fun (x y : SD) k=>r07_Same.f k x.f0 x.f1 x.f2 x.f3 x.f4 x.f5 y.f0 y.f1 y.f2 y.f3 y.f4 y.f5) (v:=smS) l l (fun x hx y _=>rsame_ev (hLs x hx))
   obtain ⟨K6,h6⟩:=ev_out (New_val (key:=keyS) l (by omega) (fun x hx=>rkey_ev (hLs x hx)))
   obtain ⟨K7,h7⟩ : ∃ K,∀ k,K ≤ k → ∀ d ∈ l,(keyS d).size ≠ 0 → Wok k d:=by
    clear hbl h1 h2 h3 h5 h6 hr0 hc0 hfl hln
    induction l with
    | nil=>exact ⟨0,fun k _ d hd=>by cases hd⟩
    | cons x l ih =>
     obtain ⟨Ka,ha⟩:=ih (fun d hd=>hLs d (List.mem_cons_of_mem _ hd))
     by_cases hx : (keyS x).size ≠ 0
     ·obtain ⟨Kb,hb⟩:=write_ok (hLs x (List.mem_cons_self ..)) (right_size hx)
      refine ⟨Ka + Kb,fun k hk d hd hz=>?_⟩
      rcases List.mem_cons.1 hd with rfl | hd
      ·exact hb k (by omega)
      ·exact ha k (by omega) d hd hz
     ·refine ⟨Ka,fun k hk d hd hz=>?_⟩
      rcases List.mem_cons.1 hd with rfl | hd
      ·exact absurd hz hx
      ·exact ha k hk d hd hz
   obtain ⟨k,hk⟩ : ∃ k,k = K1 + K2 + K3 + K5 + K6 + K7:=⟨_,rfl⟩
   obtain ⟨out,en,hnl⟩ : ∃ out en,newL keyS l [] = (out,en):=⟨_,_,rfl⟩
   have h6k:=h6 k (by omega)
   rw [hnl] at h6k
   by_cases he : en = 0
   case neg =>
    have hnk:=new_mapK (key:=keyS) l (out:=[]) List.Pairwise.nil
    rw [hnl] at hnk
    exact news_bad k keyS A0 c0 l ks turn w hr0 hc0 (h1 k (by omega)) hn hln (fun d hd=>⟨h2 k (by omega) d hd,key_lens (hLs d hd)⟩) en (newGo keyS l (.map [])).1 (Prod.ext rfl hnk.1) out h6k he
   case pos =>
    subst he
    exact news_go smS k keyS A0 c0 l ks turn w hr0 hc0 (h1 k (by omega)) hn hln (fun d hd=>⟨h2 k (by omega) d hd,key_lens (hLs d hd)⟩) out hnl h6k
     (fun x hx y hy=>h5 k (by omega) x hx y hy) (fun x hx y hy=>h3 k (by omega) x hx y hy) (fun x _=>smS_self x) (fun d hd hz=>h7 k (by omega) d hd hz)
     (fun hm=>by
      have hol:=Go.Proofs.YtmlebgikdegjjaaGreatDoor.Hd.newL_len (key:=keyS) l []
      rw [hnl] at hol
      have hol : out.length ≤ 0 + l.length:=hol
      obtain ⟨r,a,b,c⟩:=Find_val (key:=keyS) out ks (by omega) (fun x hx=>rkey_ev (hLs x (hm x hx)))
      obtain ⟨k1,hk1⟩:=a.rounds
      exact ⟨k1,r,hk1,b,c⟩)
     (fun hm hz=>by
      have hol:=Go.Proofs.YtmlebgikdegjjaaGreatDoor.Hd.newL_len (key:=keyS) l []
      rw [hnl] at hol
      have hol : out.length ≤ 0 + l.length:=hol
      exact (Write_val out (by omega) (fun x hx=>⟨hLs x (hm x hx),right_size (hz x hx)⟩)).rounds)
end Go.Proofs.YtmlebgikdegjjaaGreatDoor.Pure
