/- A part of the proof. -/
import Derived.Test.YthhhbkkelnaekaaGreatDoorBd
import Derived.Test.YthhhbkkelnaekaaGreatDoorP1
set_option linter.all false
set_option maxHeartbeats 8000000
set_option maxRecDepth 10000
namespace Go.Scarf
theorem NI:∀ {xs:List Tree},(∀ x∈xs,TG x)→ZC xs
  | [],_=>by rw [ZC]; trivial
  | x::xs,h=>by rw [ZC]; exact ⟨h x Ma,NI (fun y hy=>h y (by simp [hy]))⟩
mutual
def Lf:Tree→Nat | .node _ t ks xs=>max t.length (max (Yl ks) (Nk xs))
def Nk:List Tree→Nat | []=>0 | x::xs=>max (Lf x) (Nk xs)
def Yl:List Str→Nat | []=>0 | k::ks=>max k.length (Yl ks)
end
theorem Uh:∀ {ks:List Str} {k:Str},k∈ks→k.length≤Yl ks
  | y :: ys, k, h => by
    rw [Yl]
    rcases List.mem_cons.1 h with rfl | h
    · omega
    · have:=Uh h; omega
theorem Ch:∀ {xs:List Tree} {x:Tree},x∈xs→Lf x≤Nk xs
  | y :: ys, k, h => by
    rw [Nk]
    rcases List.mem_cons.1 h with rfl | h
    · omega
    · have:=Ch h; omega
theorem S4 {n:Nat}:∀ {ks:List Str},(∀ k∈ks,k.length≤n)→Yl ks≤n
  | [],_=>by rw [Yl]; omega
  | k :: ks, h => by
    rw [Yl]
    have h1:=h k Ma
    have h2:=S4 (fun y hy=>h y (by simp [hy]):∀ k∈ks,k.length≤n)
    omega
theorem K3 {n:Nat}:∀ {xs:List Tree},(∀ x∈xs,Lf x≤n)→Nk xs≤n
  | [],_=>by rw [Nk]; omega
  | k :: ks, h => by
    rw [Nk]
    have h1:=h k Ma
    have h2:=K3 (fun y hy=>h y (by simp [hy]):∀ x∈ks,Lf x≤n)
    omega
theorem ES (x:Tree):Lf x≤17592186044416→TG x:=Tree.ind (Q:=fun x=>Lf x≤17592186044416→TG x) (fun k t ks xs ih h=>by
  rw [Lf] at h
  rw [TG]
  exact ⟨by omega,fun k hk=>by have:=Uh hk; omega,NI fun y hy=>ih y hy (by have:=Ch hy; omega)⟩) x
theorem F9 (x:Tree):Lf x≤17592186044416→U4 x:=Tree.ind (Q:=fun x=>Lf x≤17592186044416→U4 x) (fun k t ks xs ih h=>by
  rw [Lf] at h
  rw [U4]
  exact ⟨by omega,fun k hk=>by have:=Uh hk; omega,KH fun y hy=>ih y hy (by have:=Ch hy; omega)⟩) x
theorem MK (x:Tree):Pj x=true→Lf x≤2048:=Tree.ind (Q:=fun x=>Pj x=true→Lf x≤2048) (fun k t ks xs ih h=>by
  rw [Pj,Bool.and_eq_true,Bool.and_eq_true,decide_eq_true_eq,List.all_eq_true] at h
  rw [Lf]
  have h1:Yl ks≤2048:=S4 fun k hk=>by have:=h.1.2 k hk; simp only [decide_eq_true_eq] at this; omega
  have key:∀ ys:List Tree,(∀ y∈ys,y∈xs)→Nm ys=true→Nk ys≤2048:=by
    intro ys
    induction ys with
    | nil=>intro _ _; rw [Nk]; omega
    | cons y ys ihy =>
      intro hm hs
      rw [Nm,Bool.and_eq_true] at hs
      rw [Nk]
      have a:=ih y (hm y Ma) hs.1
      have b:=ihy (fun z hz=>hm z (by simp [hz])) hs.2
      omega
  have h2:=key xs (fun _ h=>h) h.2
  omega) x
theorem KL (x:Tree):Lf (Cj x)≤Lf x:=Tree.ind (Q:=fun x=>Lf (Cj x)≤Lf x) (fun k t ks xs ih=>by
  have hs:∀ y∈Fh xs,Lf y≤Nk xs:=by
    intro y hy
    rw [Xj] at hy
    obtain ⟨z,hz,rfl⟩:=List.mem_map.1 hy
    exact Nat.le_trans (ih z hz) (Ch hz)
  rw [Cj]
  split
  · rw [Lf, Lf]
    have h1:Yl (Lg ks)≤Yl ks:=S4 fun k hk=>Uh (Nr.1 hk)
    have h2:Nk ((Lg ks).map fun key=>(Zi ks (Fh xs) key).getD (.node 0 [] [] []))≤Nk xs:=K3 fun y hy=>by
      obtain ⟨key,_,rfl⟩:=List.mem_map.1 hy
      cases hl:Zi ks (Fh xs) key with
      | none=>simp [Lf,Yl,Nk]
      | some z=>exact hs z (L5 hl)
    omega
  · rw [Lf, Lf]
    have h2:=K3 hs
    have h3:Yl []=0:=by rw [Yl]
    omega) x
theorem Dx (m:Bool) (ind d:Nat) (D:Nat) (hD:d+1≤D):∀ (ps:List Str) (b:Bool),(Ej m ind d b ps).length≤(ps.map fun p=>p.length+(2+ind * D)).sum
  | [],b=>by rw [Ej]; simp
  | p :: ps, b => by
    have h1:=Dx m ind d D hD ps false
    have h2:=Ox m ind (d+1)
    have h3:ind * (d+1)≤ind * D:=Nat.mul_le_mul_left _ hD
    have h4:(if b=true then ([]:Str) else [44]).length≤1:=by split <;> simp
    rw [Ej,List.map_cons,List.sum_cons]
    simp only [List.length_append]
    omega
theorem G7 (m:Bool) (ind L D:Nat) (x:Tree):∀ d,Lf x≤L→d+Cd x≤D→(Xg m ind x d).length+(6 * L+6+ind * D)≤Oc x * (12 * L+40+2 * (ind * D)) :=
  Tree.ind (Q:=fun x=>∀ d,Lf x≤L→d+Cd x≤D→(Xg m ind x d).length+(6 * L+6+ind * D)≤Oc x * (12 * L+40+2 * (ind * D))) (fun k t ks xs ih d hL hd=>by
  rw [Lf] at hL
  rw [Cd] at hd
  have hq:=Uy t
  have hl:=Ox m ind d
  have hid:ind * d≤ind * D:=Nat.mul_le_mul_left _ U
  have key1:∀ ys:List Tree,(∀ y∈ys,y∈xs)→((Jq m ind ys (d+1)).map fun p=>p.length+(2+ind * D)).sum≤Fd ys * (12 * L+40+2 * (ind * D)):=by
    intro ys
    induction ys with
    | nil=>intro _; simp [Jq]
    | cons y ys ihy =>
      intro hm
      have h1:=ih y (hm y Ma) (d+1) (by have:=Ch (hm y Ma); omega) (by have:=Ah (hm y Ma); omega)
      have h2:=ihy (fun z hz=>hm z (by simp [hz]))
      rw [Jq,List.map_cons,List.sum_cons,Fd,Nat.add_mul]
      omega
  have key2:∀ (ys:List Tree) (js:List Str),(∀ y∈ys,y∈xs)→(∀ k∈js,k.length≤L)→((Cn m ind ys js (d+1)).map fun p=>p.length+(2+ind * D)).sum≤Fd ys * (12 * L+40+2 * (ind * D)):=by
    intro ys
    induction ys with
    | nil=>intro _ _ _; simp [Cn]
    | cons y ys ihy =>
      intro js hm hj
      have h1:=ih y (hm y Ma) (d+1) (by have:=Ch (hm y Ma); omega) (by have:=Ah (hm y Ma); omega)
      have h2:=ihy js.tail (fun z hz=>hm z (by simp [hz])) (fun k hk=>hj k (List.mem_of_mem_tail hk))
      have h3:(js.headD []).length≤L:=by
        cases js with
        | nil=>simp
        | cons a b=>exact hj a Ma
      have h4:=Uy (js.headD [])
      have h5:(if m=true then ([32]:Str) else []).length≤1:=by split <;> simp
      rw [Cn,List.map_cons,List.sum_cons,Fd,Nat.add_mul]
      simp only [List.length_append,List.length_cons,List.length_nil]
      omega
  have fin:∀ (o c:UInt8) (ps:List Str) (N:Nat),(xs=[]→ps=[])→(ps.map fun p=>p.length+(2+ind * D)).sum≤N→(Gn m ind d o c ps).length+(6 * L+6+ind * D)≤1 * (12 * L+40+2 * (ind * D))+N:=by
    intro o c ps N he hN
    have h5:(if ps=[] then ([]:Str) else Oh m ind d).length≤1+ind * D:=by
      split
      · simp
      · omega
    have h6:(Ej m ind d true ps).length≤N:=by
      by_cases hp:ps=[]
      · subst hp; rw [Ej]; simp
      · have hx : xs ≠ [] := fun h => hp (he h)
        have h7:1≤Md xs:=by
          cases xs with
          | nil=>exact absurd rfl hx
          | cons a b => rw [Md]; have : 1 ≤ Cd a := by (obtain ⟨_, _, _, _⟩ := a; rw [Cd]; omega)
                        omega
        exact Nat.le_trans (Dx m ind d D U ps true) hN
    rw [Gn]
    simp only [List.length_append,List.length_cons,List.length_nil]
    omega
  rw [Xg,Oc,Nat.add_mul]
  split
  · simp only [List.length_cons,List.length_nil]; omega
  split
  · omega
  split
  · exact fin _ _ _ _ (fun h=>by rw [h,Jq]) (key1 xs (fun _ h=>h))
  split
  · exact fin _ _ _ _ (fun h=>by rw [h,Cn]) (key2 xs ks (fun _ h=>h) (fun k hk=>by have:=Uh hk; omega))
  · omega) x
end Go.Scarf
namespace Go.Scarf
def Tg (x:Tree):Str:=if Je x=true then Xg false 0 x 0 else []
def HC (x:Tree):Int:=if Je x=true then 0 else 1
theorem Yq (q:Tree→Bool):∀ xs:List Tree,Tq q xs=xs.all (Fe q)
  | []=>rfl
  | x::xs=>by rw [Tq,Yq q xs]; rfl
def no7 (x:Tree):Bool:=decide (x.kind≠7)
theorem GM (p q:Tree→Bool) (x:Tree):Fe (fun x=>p x && q x) x=(Fe p x && Fe q x):=Tree.ind (Q:=fun x=>Fe (fun x=>p x && q x) x=(Fe p x && Fe q x)) (fun k t ks xs ih=>by
  rw [Fe,Fe,Fe,Yq,Yq,Yq]
  have h:xs.all (Fe fun x=>p x && q x)=(xs.all (Fe p) && xs.all (Fe q)):=by
    rw [Bool.eq_iff_iff,Bool.and_eq_true,List.all_eq_true,List.all_eq_true,List.all_eq_true]
    refine ⟨fun g=>⟨fun y hy=>?_,fun y hy=>?_⟩,fun g y hy=>?_⟩
    · have:=g y hy; rw [ih y hy,Bool.and_eq_true] at this; exact this.1
    · have:=g y hy; rw [ih y hy,Bool.and_eq_true] at this; exact this.2
    · rw [ih y hy,Bool.and_eq_true]; exact ⟨g.1 y hy,g.2 y hy⟩
  rw [h]
  cases p (.node k t ks xs) <;> cases q (.node k t ks xs) <;> simp) x
theorem FP (x:Tree):Je x=(Tj x && Fe no7 x):=by
  have h:Fe rnodeB x=(Fe no7 x && Fe nodeB x):=GM no7 nodeB x
  rw [Je,Tj,h]
  cases Rl x <;> cases Fe no7 x <;> simp
theorem Ln {x:Tree} (h:Je x=true):Tj x=true:=by
  rw [FP,Bool.and_eq_true] at h; exact h.1
theorem Kz (x:Tree) (h:Oc x≤1000000000):Oc (Qg x)≤1000000000:=by
  by_cases ho:Tj x=true
  · rw [Fq ho,(Iz x (Np ho)).1]; exact h
  · rw [Qg,if_neg ho]; decide
theorem Hq (x:Tree):Lf (Qg x)≤Lf x:=by
  by_cases ho:Tj x=true
  · rw [Fq ho]; exact KL x
  · rw [Qg, if_neg ho]
    have:Lf DP=0:=by decide
    omega
end Go.Scarf
namespace Go.Scarf
open Go.RowKit Go.Proofs Go.Proofs.Tryz
def FM (x:Tree) (ind d:Int):Prop:=Je x=true∧(0≤ind∧ind≤8)∧(0≤d∧d≤32)
instance (x:Tree) (ind d:Int):Decidable (FM x ind d):=by unfold FM; infer_instance
theorem W5 {x:Tree} (h:Je x=true) (hm:Lf x≤1073741824) (m:Bool) (ind d:Nat) (hi:ind≤8) (hd:d≤32):(Xg m ind x d).length≤140737488355328:=by
  have h1:=Iq h
  have h2:=G7 m ind (Lf x) 64 x d (Nat.le_refl _) U
  have h3:Oc x≤4096:=Y6 (Ln h)
  have h4:ind * 64≤8 * 64:=Nat.mul_le_mul_right _ hi
  have h5:Oc x * (12 * Lf x+40+2 * (ind * 64))≤4096 * (12 * 1073741824+40+2 * 512):=Nat.mul_le_mul h3 U
  omega
theorem XX (x:Tree) (S:Nat→Prop) (w0:World) (cs:List Value) (rx:Rep S w0 (Vc x) cs) (hG:Gl w0) (hsz:Oc x≤1000000000) (hm:Lf x≤1073741824):Calls prog 96 #[.agg cs.toArray] w0 (De fun v w'=>v=.tuple #[.string (bs (Tg x)),.int .i64 (HC x)]∧Same [] w0 w'):=by
  refine Bi (XI x S w0 cs rx hG (F9 x U) (ES x U) hsz (fun h=>W5 h hm _ _ _ U U)) fun v w' ⟨h1,h2⟩=>⟨?_,h2⟩
  rw [h1,Tg,HC]
  split <;> rfl
end Go.Scarf
