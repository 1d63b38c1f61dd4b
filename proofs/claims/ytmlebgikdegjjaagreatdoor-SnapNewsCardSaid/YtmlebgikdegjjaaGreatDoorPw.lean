/- What the reference writes of definitions and of snapshots. -/
import Derived.Test.YtmlebgikdegjjaaGreatDoorPAllx17
import Derived.Test.YtmlebgikdegjjaaGreatDoorPz
import Derived.Test.YtmlebgikdegjjaaGreatDoorUv
import Derived.Test.YtmlebgikdegjjaaGreatDoorQx
namespace Go.Proofs.YtmlebgikdegjjaaGreatDoor.PAll
open Go.RowKit Go.Proofs.YtmlebgikdegjjaaGreatDoorW.PrintWords Go.Proofs.YtmlebgikdegjjaaGreatDoorW.PrintLast Go.Proofs.YtmlebgikdegjjaaGreatDoor.Hd
set_option linter.unusedVariables false
theorem strOf_append (a b : List Int) : strOfNums (a ++ b) = strOfNums a ++ strOfNums b:=by
 apply ByteArray.ext
 simp [strOfNums]
theorem strOf_bytesN (s : ByteArray) : strOfNums (bytesN s) = s:=by
 apply ByteArray.ext
 apply Array.ext'
 show (bytesN s).map (fun n=>UInt8.ofNat n.toNat) = s.data.toList
 rw [bytesN,List.map_map]
 conv=>rhs;rw [← List.map_id s.data.toList]
 apply List.map_congr_left
 intro b _
 show UInt8.ofNat ((b.toNat : Int)).toNat = b
 rw [Int.toNat_natCast]
 exact UInt8.ofNat_toNat
theorem oct_step (k : Nat) (x i : Int) (y : ByteArray) (h0 : 0 ≤ x) (h1 : x < 4294967296) (hi : 0 ≤ i) (hi4 : i < 4) (hy : y.size ≤ 100) :
  r01_octets.l0 (k + 1) x 4 y i = r01_octets.l0 k (x / 256) 4 (strOfNums [x % 256] ++ y) (i + 1):=by
 have e1 : Int.tmod x 256 % 256 = x % 256:=by rw [Int.tmod_eq_emod_of_nonneg h0];omega
 have e2 : IntKind.u64.wrap (Int.tdiv x 256) = x / 256:=by rw [Int.tdiv_eq_ediv_of_nonneg h0];exact u64_mod _ (by omega)
 have e3 : wrap64 (i + 1) = i + 1:=IntWalk.wrap64_in _ (by omega)
 rw [r01_octets.l0,if_pos hi4,Option.bind_some,e1,e2,e3,if_pos (by rw [strOf_size];simp only [List.length_cons,List.length_nil];omega)]
theorem octets_val (n : Int) (h0 : 0 ≤ n) (h1 : n < 4294967296) : Ev (fun k=>r01_octets.f k n 4) (strOfNums (be4 n)):=by
 refine ev_mk 5 (fun k hk=>?_)
 obtain ⟨j,rfl⟩ : ∃ j,k = j + 1 + 1 + 1 + 1 + 1:=⟨k - 5,by omega⟩
 have hs : ∀ (a : Int) (y : ByteArray),(strOfNums [a] ++ y).size = y.size + 1:=fun a y=>by rw [ByteArray.size_append,strOf_size];simp only [List.length_cons,List.length_nil];omega
 have hn : (⟨#[]⟩ : ByteArray).size = 0:=rfl
 unfold r01_octets.f
 rw [oct_step _ _ _ _ h0 h1 (by decide) (by decide) (by omega),oct_step _ _ _ _ (by omega) (by omega) (by decide) (by decide) (by rw [hs];omega),oct_step _ _ _ _ (by omega) (by omega) (by decide) (by decide) (by rw [hs,hs];omega),oct_step _ _ _ _ (by omega) (by omega) (by decide) (by decide) (by rw [hs,hs,hs];omega),r01_octets.l0,if_neg (by decide)]
 rw [show (⟨#[]⟩ : ByteArray) = strOfNums [] from rfl,← strOf_append,← strOf_append,← strOf_append,← strOf_append]
 congr 2
 show [n / 256 / 256 / 256 % 256] ++ ([n / 256 / 256 % 256] ++ ([n / 256 % 256] ++ ([n % 256] ++ []))) = be4 n
 unfold be4
 simp only [List.cons_append,List.nil_append]
 rw [show n / 256 / 256 / 256 = n / 16777216 by omega,show n / 256 / 256 = n / 65536 by omega]
theorem Num_val (n : Int) (h0 : 0 ≤ n) (h1 : n ≤ 2147483647) : Ev (fun k=>r01_Num.f k n) (strOfNums (be4 n),true):=by
 obtain ⟨K,h⟩:=ev_out (octets_val n h0 (by omega))
 refine ev_mk K (fun k hk=>?_)
 unfold r01_Num.f
 rw [if_neg (by omega),if_neg (by omega),show IntKind.u64.wrap (n) = n from u64_mod n (by omega),h k hk]
 rfl
theorem Text_val (s : ByteArray) (hs : s.size ≤ 100000) : Ev (fun k=>r01_Text.f k s) (strOfNums (textO s)):=by
 obtain ⟨K,h⟩:=ev_out (Num_val (s.size : Int) (by omega) (by omega))
 refine ev_mk K (fun k hk=>?_)
 unfold r01_Text.f
 rw [h k hk,Option.bind_some]
 simp only []
 rw [if_pos (by rw [strOf_size];show 4 + s.size ≤ _;omega),textO,strOf_append,strOf_bytesN]
theorem strOf_text_size (s : ByteArray) : (strOfNums (textO s)).size = s.size + 4:=by rw [strOf_size,textO_len]
theorem Texts_l0 (l : List ByteArray) (hs : ∀ x ∈ l,x.size ≤ 100000) (hll : l.length ≤ 1000000) : ∀ (d i : Nat),l.length - i = d → i ≤ l.length → ∀ acc : ByteArray,acc.size + d * 100004 ≤ 1000000000000000 →
  Ev (fun k=>r01_Texts.l0 k l acc (i : Int)) (acc ++ strOfNums ((l.drop i).flatMap textO))
 | 0,i,hd,hi,acc,ha=>by
  refine Ev.step (f:=fun _=>some acc) (fun k=>?_) ?_
  ·rw [r01_Texts.l0,if_neg (by omega)]
  ·rw [List.drop_eq_nil_of_le (by omega)]
   have e : acc ++ strOfNums (([] : List ByteArray).flatMap textO) = acc:=by
    apply ByteArray.ext
    simp [strOfNums]
   rw [e]
   exact Ev.now _
 | d + 1,i,hd,hi,acc,ha=>by
  have hlt : i < l.length:=by omega
  have hw : wrap64 ((i : Int) + 1) = ((i + 1 : Nat) : Int):=wrap_succ (by omega) (show (i : Int) < (l.length : Int) by omega) (by omega)
  have hsz:=hs _ (List.getElem_mem hlt)
  have ih:=Texts_l0 l hs hll d (i + 1) (by omega) (by omega) (acc ++ strOfNums (textO l[i])) (by rw [ByteArray.size_append,strOf_text_size];omega)
  rw [List.drop_eq_getElem_cons hlt,List.flatMap_cons,strOf_append,← ByteArray.append_assoc]
  refine Ev.step (f:=fun k=>(r01_Text.f k (l[i])).bind fun t350=>(if acc.size + t350.size ≤ 9223372036854775807 then (r01_Texts.l0 k l (acc ++ t350) (((i + 1 : Nat) : Int))) else (none))) (fun k=>?_) ?_
  ·rw [r01_Texts.l0,if_pos (by omega),if_pos (by omega),rdOf_get l i hlt,hw]
  ·refine Ev.bind (f:=fun k t350=>(if acc.size + t350.size ≤ 9223372036854775807 then (r01_Texts.l0 k l (acc ++ t350) (((i + 1 : Nat) : Int))) else (none))) (Text_val _ hsz) (Ev.congr (fun k=>?_) ih)
   rw [if_pos (by rw [strOf_text_size];omega)]
theorem Texts_val (l : List ByteArray) (hs : ∀ x ∈ l,x.size ≤ 100000) (hll : l.length ≤ 1000000) : Ev (fun k=>r01_Texts.f k l) (strOfNums (be4 (l.length : Int) ++ l.flatMap textO)):=by
 have h:=Texts_l0 l hs hll l.length 0 (by omega) (Nat.zero_le _) (strOfNums (be4 (l.length : Int))) (by rw [strOf_size];show 4 + _ ≤ _;omega)
 rw [List.drop_zero,← strOf_append] at h
 refine Ev.congr (fun k=>?_) (Ev.bind (f:=fun k bt=>r01_Texts.l0 k l (Prod.fst bt) 0) (Num_val (l.length : Int) (by omega) (by omega)) h)
 rfl
theorem Octets_val (kd : Int) (c s : ByteArray) (v : List ByteArray) (l t : ByteArray) (hk : kd = 1 ∨ kd = 2) (hc : c.size ≤ 100000) (hs : s.size ≤ 100000) (hv : v.length ≤ 1000000) (hl : l.size ≤ 100000) (ht : t.size ≤ 100000) (hx : ∀ x ∈ v,x.size ≤ 100000) :
  Ev (fun k=>r07_Octets.f k kd c s v l t) (strOfNums (defO kd c s v l t)):=by
 obtain ⟨K1,h1⟩:=ev_out (Num_val kd (by omega) (by omega))
 obtain ⟨K2,h2⟩:=ev_out (Text_val c hc)
 obtain ⟨K3,h3⟩:=ev_out (Text_val s hs)
 obtain ⟨K4,h4⟩:=ev_out (Texts_val v hx hv)
 obtain ⟨K5,h5⟩:=ev_out (Text_val l hl)
 obtain ⟨K6,h6⟩:=ev_out (Text_val t ht)
 have b4 : ∀ n,(be4 n).length = 4:=fun _=>rfl
 have hfl:=listO_len v hx
 refine ev_mk (K1 + K2 + K3 + K4 + K5 + K6) (fun k hk'=>?_)
 unfold r07_Octets.f
 rw [h1 k (by omega),Option.bind_some]
 simp only []
 rcases hk with hk | hk
 ·rw [if_pos hk,h2 k (by omega),Option.bind_some,if_pos (by rw [strOf_text_size,strOf_size,b4];omega),h3 k (by omega),Option.bind_some,if_pos (by rw [ByteArray.size_append,strOf_text_size,strOf_text_size,strOf_size,b4];omega),h4 k (by omega),Option.bind_some,
   if_pos (by rw [ByteArray.size_append,ByteArray.size_append,strOf_text_size,strOf_text_size,strOf_size,strOf_size,b4,List.length_append,b4];omega),← strOf_append,← strOf_append,← strOf_append,defO,if_pos hk]
  simp only [List.append_assoc]
 ·rw [if_neg (by omega),h2 k (by omega),Option.bind_some,if_pos (by rw [strOf_text_size,strOf_size,b4];omega),h5 k (by omega),Option.bind_some,if_pos (by rw [ByteArray.size_append,strOf_text_size,strOf_text_size,strOf_size,b4];omega),h6 k (by omega),Option.bind_some,
   if_pos (by rw [ByteArray.size_append,ByteArray.size_append,strOf_text_size,strOf_text_size,strOf_text_size,strOf_size,b4];omega),← strOf_append,← strOf_append,← strOf_append,defO,if_neg (by omega)]
  simp only [List.append_assoc]
theorem rightD_kd {kd : Int} {c s : ByteArray} {v : List ByteArray} {l t : ByteArray} (h : rightD kd c s v l t = true) : kd = 1 ∨ kd = 2:=by
 unfold rightD at h
 by_cases h1 : kd = 1
 ·exact Or.inl h1
 ·rw [if_neg h1] at h
  by_cases h2 : kd = 2
  ·exact Or.inr h2
  ·rw [if_neg h2] at h;cases h
theorem listO_small : ∀ (l : List ByteArray),(∀ x ∈ l,x.size ≤ 100) → (l.flatMap textO).length ≤ l.length * 104
 | [],_=>Nat.zero_le _
 | x :: l,h=>by
  rw [List.flatMap_cons,List.length_append,textO_len,List.length_cons]
  have:=h x List.mem_cons_self
  have:=listO_small l (fun y hy=>h y (List.mem_cons_of_mem _ hy))
  omega
theorem defO_len (kd : Int) (c s : ByteArray) (v : List ByteArray) (l t : ByteArray) (hc : c.size ≤ 100) (hs : s.size ≤ 100) (hv : v.length ≤ 30) (hl : l.size ≤ 600) (ht : t.size ≤ 5000) (hx : ∀ x ∈ v,x.size ≤ 100) : (defO kd c s v l t).length ≤ 80000:=by
 have h:=listO_small v hx
 have b4 : ∀ n,(be4 n).length = 4:=fun _=>rfl
 unfold defO
 rw [List.length_append,List.length_append,b4,textO_len]
 split
 ·rw [List.length_append,List.length_append,b4,textO_len];omega
 ·rw [List.length_append,textO_len,textO_len];omega
theorem defS_len {d : SD} (h : smallB d = true) : (defS d).length ≤ 80000:=by
 obtain ⟨a1,a2,a3,a4,a5,a6⟩:=smallD_of h
 exact defO_len d.f0 d.f1 d.f2 d.f3 d.f4 d.f5 a1 a2 a3 a4 a5 a6
theorem write_ok {d : SD} (h : smallB d = true) (hr : rightB d = true) : ∃ K,∀ k,K ≤ k → Wok k d:=by
 obtain ⟨a1,a2,a3,a4,a5,a6⟩:=smallD_of h
 obtain ⟨K,hK⟩:=ev_out (Right_val d.f0 d.f1 d.f2 d.f3 d.f4 d.f5 (by omega) (by omega))
 exact ⟨K,fun k hk=>⟨(hK k hk).trans (congrArg some hr),rightD_kd hr,⟨by omega,by omega,by omega,by omega,by omega⟩,fun x hx=>by have:=a6 x hx;omega,Nat.le_trans (defS_len h) (by decide)⟩⟩
theorem octS_val {d : SD} (h : smallB d = true) (hr : rightB d = true) : Ev (fun k=>r07_Octets.f k d.f0 d.f1 d.f2 d.f3 d.f4 d.f5) (strOfNums (defS d)):=by
 obtain ⟨a1,a2,a3,a4,a5,a6⟩:=smallD_of h
 exact Octets_val d.f0 d.f1 d.f2 d.f3 d.f4 d.f5 (rightD_kd hr) (by omega) (by omega) (by omega) (by omega) (by omega) (fun x hx=>by have:=a6 x hx;omega)
theorem Write_l0 (l : List SD) (hl : l.length ≤ 100000) (hs : ∀ x ∈ l,smallB x = true ∧ rightB x = true) : ∀ (n i : Nat),l.length - i = n → i ≤ l.length → ∀ acc : ByteArray,acc.size + n * 80000 ≤ 1000000000000000 →
  Ev (fun k=>r08_Write.l0 k l acc (i : Int)) (acc ++ strOfNums ((l.drop i).flatMap defS)):=by
 intro n
 induction n with
 | zero =>
  intro i hd hi acc ha
  obtain rfl : i = l.length:=by omega
  rw [List.drop_length]
  have e : acc ++ strOfNums (([] : List SD).flatMap defS) = acc:=by
   apply ByteArray.ext
   simp [strOfNums]
  rw [e]
  exact Ev.step (f:=fun _=>some acc) (fun k=>by rw [r08_Write.l0,if_neg (by omega)]) (Ev.now _)
 | succ n ih =>
  intro i hd hi acc ha
  have hlt : i < l.length:=by omega
  obtain ⟨h1,h2⟩:=hs _ (List.getElem_mem hlt)
  have hsz : (strOfNums (defS l[i])).size ≤ 80000:=by rw [strOf_size];exact defS_len h1
  rw [List.drop_eq_getElem_cons hlt,List.flatMap_cons,strOf_append,← ByteArray.append_assoc]
  have hstep : ∀ k,r08_Write.l0 (k + 1) l acc (i : Int) = (r07_Octets.f k (l[i]).f0 (l[i]).f1 (l[i]).f2 (l[i]).f3 (l[i]).f4 (l[i]).f5).bind fun t=>(if acc.size + t.size ≤ 9223372036854775807 then (r08_Write.l0 k l (acc ++ t) ((i + 1 : Nat) : Int)) else (none)):=fun k=>by
   rw [r08_Write.l0,if_pos (by omega),if_pos (by omega),rdDef l i hlt,w64 hlt (by omega)]
  refine Ev.step hstep (Ev.bind (octS_val h1 h2) (Ev.congr (fun k=>if_pos (by omega)) (ih (i + 1) (by omega) (by omega) _ ?_)))
  rw [ByteArray.size_append]
  omega
theorem Write_val (l : List SD) (hl : l.length ≤ 100000) (hs : ∀ x ∈ l,smallB x = true ∧ rightB x = true) : Ev (fun k=>r08_Write.f k l) (strOfNums (snapO l)):=by
 have h:=Write_l0 l hl hs l.length 0 (by omega) (Nat.zero_le _) (strOfNums (be4 (l.length : Int))) (by rw [strOf_size];show 4 + _ ≤ _;omega)
 rw [List.drop_zero,← strOf_append] at h
 refine Ev.congr (fun k=>?_) (Ev.bind (f:=fun k bt=>r08_Write.l0 k l (Prod.fst bt) 0) (Num_val (l.length : Int) (by omega) (by omega)) h)
 rfl
end Go.Proofs.YtmlebgikdegjjaaGreatDoor.PAll
