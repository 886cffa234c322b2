/- A part of the proof. -/
import Derived.Test.YthhhbkkelnaekaaGreatDoorW19
set_option linter.all false
set_option maxHeartbeats 8000000
set_option maxRecDepth 10000
namespace Go.Scarf
theorem U8 {x:Num} (h:Zd x=true) (hd:x.digits=[]):x=Num.zero:=by
  unfold Zd at h
  simp only [Bool.or_eq_true,Bool.and_eq_true,decide_eq_true_eq] at h
  rcases h with h | h
  · exact h
  · exact absurd hd (Eh h.1.1.1.1.1)
theorem HK {ks:List Str} {xs:List Tree} (hn:ks.Nodup):∀ {i:Nat} (h:i < ks.length) (h2:i < xs.length),Zi ks xs ks[i]=some xs[i]:=by
  induction ks generalizing xs with
  | nil=>intro i h; cases h
  | cons k ks ih =>
    intro i h h2
    cases xs with
    | nil=>cases h2
    | cons x xs =>
      cases i with
      | zero=>simp [Zi]
      | succ i =>
        have hne:k≠ks[i]'(by simpa using h):=fun e=>(List.nodup_cons.1 hn).1 (e ▸ List.getElem_mem _)
        simp only [Zi,List.getElem_cons_succ]
        rw [if_neg hne]
        exact ih (List.nodup_cons.1 hn).2 (by simpa using h) (by simpa using h2)
theorem HF {ks ks':List Str} {n:Int} (h:ks.Perm ks'):Tm ks n=Tm ks' n:=by
  unfold Tm
  rw [h.length_eq,decide_eq_decide.2 h.nodup_iff]
  congr 2
  rw [Bool.eq_iff_iff,List.all_eq_true,List.all_eq_true]
  exact ⟨fun hh k hk=>hh k (h.mem_iff.2 hk),fun hh k hk=>hh k (h.mem_iff.1 hk)⟩
theorem L2 {q:Tree→Bool}:∀ {xs:List Tree},(∀ x∈xs,Fe q x=true)→Tq q xs=true
  | [],_=>rfl
  | x::xs,h=>by rw [Tq,h x Ma,L2 (fun y hy=>h y (by simp [hy]))]; rfl
theorem EI {ks:List Str} {xs:List Tree} (hn:ks.Nodup) (hl:ks.length=xs.length):(Hz ks xs).Perm (Fh xs):=by
  have h1:(Hz ks xs).Perm (ks.map fun key=>(Zi ks (Fh xs) key).getD (.node 0 [] [] [])):=(Up ks).map _
  refine h1.trans ?_
  have h2:(ks.map fun key=>(Zi ks (Fh xs) key).getD (.node 0 [] [] []))=Fh xs:=by
    apply List.ext_getElem
    · rw [List.length_map,Xj,List.length_map,hl]
    · intro i h1 h2
      rw [List.getElem_map,HK hn (by simpa using h1) h2]
      rfl
  rw [h2]
theorem N7 {k:Int} {t:Str} {ks:List Str} {xs:List Tree}:Cj (.node k t ks xs)=if k=6 then .node k t (Lg ks) (Hz ks xs) else .node k t [] (Fh xs):=by rw [Cj]; rfl
theorem QJ (x:Tree):Fe nodeB x=true→Fe nodeB (Cj x)=true:=Tree.ind (Q:=fun x=>Fe nodeB x=true→Fe nodeB (Cj x)=true) (fun k t ks xs ih hx=>by
  obtain ⟨hn,hxs⟩:=Kg hx
  have hs:∀ y∈Fh xs,Fe nodeB y=true:=by
    intro y hy
    rw [Xj] at hy
    obtain ⟨z,hz,rfl⟩:=List.mem_map.1 hy
    exact ih z hz (hxs z hz)
  rw [N7]
  split
  · rename_i h6
    subst h6
    obtain ⟨nd,len⟩:=Us hn
    have hp:=EI nd len
    rw [Fe,Bool.and_eq_true]
    refine ⟨?_,L2 fun y hy=>hs y (hp.mem_iff.1 hy)⟩
    simp only [nodeB] at hn ⊢
    rw [if_pos trivial] at hn ⊢
    rw [HF (Up ks),hp.length_eq,Xj,List.length_map]
    exact hn
  · rename_i h6
    rw [Fe,Bool.and_eq_true]
    refine ⟨?_,L2 hs⟩
    simp only [nodeB] at hn ⊢
    by_cases h5:k=5
    · rw [if_pos h5] at hn ⊢
      simp at hn ⊢
      exact hn.2
    · rw [if_neg h5, if_neg h6] at hn ⊢
      by_cases hc:ks≠[]∨xs≠[]
      · rw [if_pos hc] at hn; cases hn
      · have hk : ks = [] := Classical.byContradiction fun h => hc (.inl h)
        have hx0:xs=[]:=Classical.byContradiction fun h=>hc (.inr h)
        subst hk hx0
        simpa [Fh] using hn) x
end Go.Scarf
namespace Go.Scarf
theorem Sv:∀ xs:List Tree,Fd xs=(xs.map Oc).sum
  | []=>rfl
  | x::xs=>by rw [Fd,Sv xs]; rfl
theorem T_ {xs ys:List Tree} (h:xs.Perm ys):Fd xs=Fd ys:=by
  rw [Sv,Sv]; exact (h.map _).sum_nat
theorem I9 {xs ys:List Tree} (h:xs.Perm ys):Md xs=Md ys:=by
  induction h with
  | nil=>rfl
  | cons x _ ih=>rw [Md,Md,ih]
  | swap x y l=>simp only [Md]; omega
  | trans _ _ h1 h2=>rw [h1,h2]
theorem Iz (x:Tree):Fe nodeB x=true→Oc (Cj x)=Oc x∧Cd (Cj x)=Cd x:=Tree.ind (Q:=fun x=>Fe nodeB x=true→Oc (Cj x)=Oc x∧Cd (Cj x)=Cd x) (fun k t ks xs ih hx=>by
  obtain ⟨hn,hxs⟩:=Kg hx
  have h1:∀ ys:List Tree,(∀ y∈ys,y∈xs)→Fd (Fh ys)=Fd ys∧Md (Fh ys)=Md ys:=by
    intro ys
    induction ys with
    | nil=>intro _; exact ⟨rfl,rfl⟩
    | cons y ys ihy =>
      intro hm
      obtain ⟨a,b⟩:=ih y (hm y Ma) (hxs y (hm y Ma))
      obtain ⟨c,d⟩:=ihy (fun z hz=>hm z (by simp [hz]))
      simp only [Fh,Fd,Md,a,b,c,d]
      exact ⟨trivial,trivial⟩
  obtain ⟨a,b⟩:=h1 xs (fun _ h=>h)
  rw [N7]
  split
  · rename_i h6
    subst h6
    obtain ⟨nd,len⟩:=Us hn
    have hp:=EI nd len
    simp only [Oc,Cd,T_ hp,I9 hp,a,b]
    exact ⟨trivial,trivial⟩
  · simp only [Oc, Cd, a, b]
    exact ⟨trivial,trivial⟩) x
theorem OI {x:Tree} (h:Tj x=true):Tj (Cj x)=true:=by
  obtain ⟨a,b⟩:=Iz x (Np h)
  have c:=QJ x (Np h)
  unfold Tj Rl at h ⊢
  rw [a,b,c]
  simp only [Bool.and_eq_true] at h
  simp [h.1]
theorem Fq {x:Tree} (h:Tj x=true):Qg x=Cj x:=by rw [Qg,if_pos h]
end Go.Scarf
