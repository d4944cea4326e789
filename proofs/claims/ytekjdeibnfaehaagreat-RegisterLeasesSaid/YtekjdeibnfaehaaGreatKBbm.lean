/- Texts of a proof. -/
/- Plain law: runs of free days. The leases cut out one by one (the program), or the runs found day by day (the reference): the same list. No program. -/
set_option linter.unusedSimpArgs false
set_option linter.unusedVariables false
namespace Go.Proofs.YtekjdeibnfaehaaGreat
end Go.Proofs.YtekjdeibnfaehaaGreat
